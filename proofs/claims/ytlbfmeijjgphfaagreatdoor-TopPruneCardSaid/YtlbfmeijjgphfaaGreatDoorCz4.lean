/- CO: texts of this claim, one behind the other. -/
import Derived.Test.YtlbfmeijjgphfaaGreatDoorCz3
import Derived.Test.YtlbfmeijjgphfaaGreatDoorCz1
import Derived.Test.YtlbfmeijjgphfaaGreatDoorAm3
import Derived.Shelf.Sort.Plain
import Derived.Ground.Names2Prog
import Derived.Shelf.Slices.CompactI
import Derived.Shelf.Slices.In.SortNone
import Derived.Test.YtlbfmeijjgphfaaGreatDoorProg
set_option linter.unusedVariables false
set_option linter.unusedSimpArgs false
/- CO: what numbers make: trees, models, regions, queries. -/
namespace Go.Co
open Go.Am Go.Proofs
def c28_21:ACode:=.seq (.seq (.ops [⟨some 21,.mv (.t 7),none,[]⟩,⟨some 22,.fad (.t 2) 1,none,[2]⟩,⟨some 23,.load 1 false (.t 22),none,[2]⟩,⟨some 24,.len (.t 23),none,[]⟩,⟨some 25,.bin .lss (.t 21) (.t 24),none,[]⟩,⟨some 26,.mv (.t 25),none,[]⟩,⟨some 27,.mv (.t 7),some (26,true),[]⟩,⟨some 28,.bin .lss (.t 27) (.c (.int .i64 7)),some (26,true),[]⟩,⟨some 29,.pick (.t 26) (.t 28) (.c (.bool false)),none,[]⟩] [1,2,5,6,7,29]) (.cond (.t 29) .skip (.exit 0))) (.seq (.block 1 (.seq (.ops [⟨some 32,.fad (.t 2) 1,none,[2]⟩,⟨some 33,.load 1 false (.t 32),none,[2]⟩,⟨some 34,.mv (.t 7),none,[]⟩,⟨some 35,.ias (.t 33) (.t 34) 1,none,[]⟩,⟨some 36,.load 1 false (.t 35),none,[]⟩,⟨some 37,.mv (.t 6),none,[]⟩,⟨some 38,.len (.t 37),none,[6]⟩,⟨some 39,.bin .sub (.t 38) (.c (.int .i64 1)),none,[]⟩,⟨some 40,.call 17 [.t 36,.c (.int .i64 0),.t 39],none,[]⟩,⟨some 8,.mv (.t 40),none,[]⟩] [1,2,5,6,7,8]) (.seq (.ops [⟨some 41,.mv (.t 6),none,[]⟩,⟨some 42,.mv (.t 8),none,[]⟩,⟨some 43,.ias (.t 41) (.t 42) 1,none,[6]⟩,⟨some 44,.load 1 false (.t 43),none,[6]⟩,⟨some 9,.mv (.t 44),none,[]⟩] [1,2,5,6,7,8,9]) (.seq (.ops [⟨some 45,.mv (.t 5),none,[]⟩,⟨some 46,.len (.t 45),none,[5]⟩,⟨some 10,.mv (.t 46),none,[]⟩] [1,2,5,6,7,8,9,10]) (.seq (.ops [⟨some 47,.mv (.t 5),none,[]⟩,⟨some 48,.mv (.t 9),none,[]⟩,⟨some 49,.fad (.t 2) 2,none,[2]⟩,⟨some 50,.load 1 false (.t 49),none,[2]⟩,⟨some 51,.mv (.t 7),none,[]⟩,⟨some 52,.call 27 [.t 50,.t 51],none,[]⟩,⟨some 53,.mv (.t 1),none,[]⟩,⟨some 54,.bin .sub (.t 53) (.c (.int .i64 1)),none,[]⟩,⟨some 55,.call 17 [.t 52,.c (.int .i64 0),.t 54],none,[]⟩,⟨some 56,.fad (.t 2) 3,none,[2]⟩,⟨some 57,.load 1 false (.t 56),none,[2]⟩,⟨some 58,.mv (.t 7),none,[]⟩,⟨some 59,.call 27 [.t 57,.t 58],none,[]⟩,⟨some 60,.call 17 [.t 59,.c (.int .i64 0),.c (.int .i64 9)],none,[]⟩,⟨some 61,.mv (.t 10),none,[]⟩,⟨some 62,.mv (.t 10),none,[]⟩,⟨some 63,.bin .add (.t 62) (.c (.int .i64 1)),none,[]⟩,⟨some 64,.build [.bool false,.int .i64 0,.int .i64 0,.int .i64 0,.int .i64 0,.int .i64 0] [(2,1,.t 55),(3,1,.t 60),(4,1,.t 61),(5,1,.t 63)],none,[]⟩,⟨some 65,.ias (.t 47) (.t 48) 6,none,[5]⟩,⟨none,.store (.t 65) 6 (.t 64),none,[5]⟩] [1,2,5,6,7,8,10]) (.seq (.ops [⟨some 66,.mv (.t 5),none,[]⟩,⟨some 67,.fad (.t 2) 4,none,[2]⟩,⟨some 68,.load 1 false (.t 67),none,[2]⟩,⟨some 69,.mv (.t 7),none,[]⟩,⟨some 70,.bin .mul (.c (.int .i64 2)) (.t 69),none,[]⟩,⟨some 71,.bin .add (.t 70) (.c (.int .i64 1)),none,[]⟩,⟨some 72,.call 27 [.t 68,.t 71],none,[]⟩,⟨some 73,.call 17 [.t 72,.c (.int .i64 (-3000)),.c (.int .i64 3000)],none,[]⟩,⟨some 74,.build [.bool false,.int .i64 0,.int .i64 0,.int .i64 0,.int .i64 0,.int .i64 0] [(0,1,.c (.bool true)),(1,1,.t 73)],none,[]⟩,⟨some 75,.fad (.t 2) 4,none,[2]⟩,⟨some 76,.load 1 false (.t 75),none,[2]⟩,⟨some 77,.mv (.t 7),none,[]⟩,⟨some 78,.bin .mul (.c (.int .i64 2)) (.t 77),none,[]⟩,⟨some 79,.bin .add (.t 78) (.c (.int .i64 2)),none,[]⟩,⟨some 80,.call 27 [.t 76,.t 79],none,[]⟩,⟨some 81,.call 17 [.t 80,.c (.int .i64 (-3000)),.c (.int .i64 3000)],none,[]⟩,⟨some 82,.build [.bool false,.int .i64 0,.int .i64 0,.int .i64 0,.int .i64 0,.int .i64 0] [(0,1,.c (.bool true)),(1,1,.t 81)],none,[]⟩,⟨some 83,.mkrow 83 2 6 [.bool false,.int .i64 0,.int .i64 0,.int .i64 0,.int .i64 0,.int .i64 0] [(0,6,.t 74),(6,6,.t 82)],none,[]⟩,⟨some 84,.app 5 [5] (.t 66) (.t 83) 6,none,[5,83]⟩,⟨some 5,.mv (.t 84),none,[]⟩] [1,2,5,6,7,8,10]) (.ops [⟨some 85,.mkrow 85 0 1 [.int .i64 0] [],none,[]⟩,⟨some 86,.mv (.t 6),none,[]⟩,⟨some 87,.mv (.t 8),none,[]⟩,⟨some 88,.sl (.t 86) none (some (.t 87)) 1,none,[6]⟩,⟨some 89,.app 89 [85] (.t 85) (.t 88) 1,none,[6,85]⟩,⟨some 90,.mv (.t 6),none,[]⟩,⟨some 91,.mv (.t 8),none,[]⟩,⟨some 92,.bin .add (.t 91) (.c (.int .i64 1)),none,[]⟩,⟨some 93,.sl (.t 90) (some (.t 92)) none 1,none,[6]⟩,⟨some 94,.app 94 [89] (.t 89) (.t 93) 1,none,[6,89]⟩,⟨some 95,.mv (.t 10),none,[]⟩,⟨some 96,.mv (.t 10),none,[]⟩,⟨some 97,.bin .add (.t 96) (.c (.int .i64 1)),none,[]⟩,⟨some 98,.mkrow 98 2 1 [.int .i64 0] [(0,1,.t 95),(1,1,.t 97)],none,[]⟩,⟨some 99,.app 6 [94] (.t 94) (.t 98) 1,none,[94,98]⟩,⟨some 6,.mv (.t 99),none,[]⟩] [1,2,5,6,7]))))))) (.ops [⟨some 30,.mv (.t 7),none,[]⟩,⟨some 31,.bin .add (.t 30) (.c (.int .i64 1)),none,[]⟩,⟨some 7,.mv (.t 31),none,[]⟩] [1,2,5,6,7]))
theorem r28_21:type_of% (rr c28_21.eq_1):=rr rfl
def c28_37:ACode:=.seq (.ops [⟨some 103,.bin .lss (.t 102) (.t 101),none,[]⟩] [11,100,101,102,103]) (.seq (.cond (.t 103) .skip (.exit 2)) (.seq (.block 3 (.seq (.ops [⟨some 104,.ias (.t 100) (.t 102) 6,none,[5]⟩,⟨some 105,.load 6 true (.t 104),none,[5]⟩,⟨some 13,.alloc [.bool false,.int .i64 0,.int .i64 0,.int .i64 0,.int .i64 0,.int .i64 0],none,[]⟩,⟨none,.store (.t 13) 6 (.t 105),none,[13]⟩] [11,13,100,101,102]) (.ops [⟨some 106,.mv (.t 11),none,[]⟩,⟨some 107,.load 6 true (.t 13),none,[13]⟩,⟨some 108,.call 43 [.t 107],none,[]⟩,⟨some 109,.mkrow 109 1 1 [.int .u64 0] [(0,1,.t 108)],none,[]⟩,⟨some 110,.app 11 [11] (.t 106) (.t 109) 1,none,[11,109]⟩,⟨some 11,.mv (.t 110),none,[]⟩] [11,100,101,102]))) (.ops [⟨some 111,.bin .add (.t 102) (.c (.int .i64 1)),none,[]⟩,⟨some 102,.mv (.t 111),none,[]⟩] [11,100,101,102])))
theorem r28_37:type_of% (rr c28_37.eq_1):=rr rfl
def c28_38:ACode:=.keep [11,100,101,102] [5,11] c28_37
theorem r28_38:type_of% (rr c28_38.eq_1):=rr rfl
def c28_43:ACode:=.seq (.ops [⟨some 112,.mv (.t 11),none,[]⟩,⟨some 4,.mv (.t 112),none,[]⟩] [4]) .ret
theorem r28_43:type_of% (rr c28_43.eq_1):=rr rfl
def c28_49:ACode:=.seq (.ops [⟨some 2,.box (.t 0) 5,none,[]⟩,⟨some 4,.mv (.c (.nils)),none,[]⟩] [1,2]) (.seq (.ops [⟨some 14,.fad (.t 2) 4,none,[2]⟩,⟨some 15,.load 1 false (.t 14),none,[2]⟩,⟨some 16,.call 27 [.t 15,.c (.int .i64 0)],none,[]⟩,⟨some 17,.call 17 [.t 16,.c (.int .i64 (-3000)),.c (.int .i64 3000)],none,[]⟩,⟨some 18,.build [.bool false,.int .i64 0,.int .i64 0,.int .i64 0,.int .i64 0,.int .i64 0] [(0,1,.c (.bool true)),(1,1,.t 17)],none,[]⟩,⟨some 19,.mkrow 5 1 6 [.bool false,.int .i64 0,.int .i64 0,.int .i64 0,.int .i64 0,.int .i64 0] [(0,6,.t 18)],none,[]⟩,⟨some 5,.mv (.t 19),none,[]⟩] [1,2,5]) (.seq (.ops [⟨some 20,.mkrow 6 1 1 [.int .i64 0] [(0,1,.c (.int .i64 0))],none,[]⟩,⟨some 6,.mv (.t 20),none,[]⟩] [1,2,5,6]) (.seq (.seq (.ops [⟨some 7,.mv (.c (.int .i64 0)),none,[]⟩] [1,2,5,6,7]) (.block 0 (.loop (.keep [1,2,5,6,7] [2,5,6] c28_21)))) (.seq (.ops [⟨some 11,.nil0 11 1,none,[]⟩] [5,11]) (.seq (.seq (.ops [⟨some 100,.mv (.t 5),none,[]⟩,⟨some 101,.len (.t 100),none,[5]⟩,⟨some 102,.mv (.c (.int .i64 0)),none,[]⟩] [11,100,101,102]) (.block 2 (.loop c28_38))) c28_43)))))
theorem r28_49:type_of% (rr c28_49.eq_1):=rr rfl
def a28:AFun:=⟨2,113,c28_49,[.t 4]⟩
attribute [simp] r28_21 r28_37 r28_38 r28_43 r28_49
theorem m28:mFun Tryz.prog Tryz.f28 a28=true:=by decide +kernel
noncomputable def NodesC (t:KTree) (dim:Int):Option (List Word):=Part (1≤dim∧dim≤4) (treeNodes t dim)
theorem within_of (n lo hi:Int) (h:-1125899906842624≤lo∧lo≤hi∧hi≤1125899906842624):Within n lo hi=some (within n lo hi):=by unfold Within;rw[if_pos h]
theorem pick_of (l:List Int) (i:Nat):Pick l (i:Int)=some (pick l i):=by unfold Pick;rw[if_pos (by omega)];simp
theorem pick_0 (l:List Int):Pick l 0=some (pick l 0):=pick_of l 0
theorem rd_node (l:List Node) (i:Nat) (h:i<l.length):rd (encL l) (i*6) 6 true=some (.agg [.bool l[i].leaf,.int .i64 l[i].value,.int .i64 l[i].feature,.int .i64 l[i].cut,.int .i64 l[i].left,.int .i64 l[i].right]):=rd_row l i h
theorem nodes_out {C:Cs} (hC:∀ n:Node,C 43 [.agg [.bool n.leaf,.int .i64 n.value,.int .i64 n.feature,.int .i64 n.cut,.int .i64 n.left,.int .i64 n.right]]=some (.int .u64 (pack n).v)) (l:List Node) (hl:l.length≤31) (g:Nat→Nat) (h:Hp)
  (hh:keepH h [5,11]=[(5,⟨encL l,false,6⟩),(11,⟨[],false,1⟩)]) :
  run C (.loop c28_38) [Fr.blk 2,Fr.c c28_43] ⟨[(11,.own 11 (g 11) 0 0),(100,.own 5 (g 5) 0 l.length),(101,.int .i64 l.length),(102,.int .i64 0)],h,g⟩ (fin [ARes.t 4] (AV.lst l.length (encL (l.map pack)))):=by
 refine run_while (c:=c28_37) (fun n s=>∃(i:Nat) (g:Nat→Nat),i+n=l.length∧s=⟨[(11,.own 11 (g 11) 0 i),(100,.own 5 (g 5) 0 l.length),(101,.int .i64 l.length),(102,.int .i64 i)],[(5,⟨encL l,false,6⟩),(11,⟨encL ((l.take i).map pack),false,1⟩)],g⟩) l.length ⟨0,g,by omega, ?_⟩ ?_
 ·simp only[hh]
  simp[encL]
 rintro n s ⟨i,g,hi,rfl⟩
 by_cases h1:i<l.length
 case pos =>
  have w1:IntKind.i64.wrap ((i:Int)+1)=(i:Int)+1:=wrap64 (by omega) (by omega)
  have hr:=rd_node l i h1
  have hL:((l.take i).map pack).length=i:=by simp;omega
  have htk:List.take i (encL ((l.take i).map pack))=encL ((l.take i).map pack):=take_rows _ _ (by simp;omega)
  have c1:i≤l.length:=by omega
  have c2:i≤1099511627775:=by omega
  simp -implicitDefEqProofs [h1,hr,hC,w1,encL_length,c1,c2]
  refine⟨n-1,by omega,i+1,by omega,⟨rfl,by omega⟩, ?_⟩
  rw[List.take_take,Nat.min_self,← List.map_take,← List.map_take,List.take_succ_eq_append_getElem h1,List.map_append,encL_append]
  rfl
 case neg =>
  have hil:i=l.length:=by omega
  subst hil
  have htk:List.take l.length (List.map pack l)=List.map pack l:=List.take_of_length_le (by simp)
  simp -implicitDefEqProofs [h1,htk,encL_length]
theorem runs_Nodes (t:KTree) (dim:Int) (c:List Word) (h:NodesC t dim=some c):Runs (tbl [(27,sp2 Pick),(17,sp3 Within),(43,sp1 fun n=>some (pack n))]) a28 [Arg.enc t,Arg.enc dim] (Arg.enc c):=by
 obtain⟨⟨d1,d2⟩,rfl⟩:=part_some h
 refine⟨rfl,fun g=>run_def ?_⟩
 unfold a28
 have hw0:=within_of (pick t.val 0) (-3000) 3000 (by omega)
 by_cases hm:t.part.length≤maxN
 case neg=>simp -implicitDefEqProofs [pick_0,hw0,hm,run_round]
 simp -implicitDefEqProofs [pick_0,hw0]
 refine run_while (c:=c28_21) (fun n s=>∃(i:Nat) (g:Nat→Nat),i+n=min t.part.length 7∧s=⟨[(1,.int .i64 dim),(2,.ptr 2 (g 2) 0),(5,.own 5 (g 5) 0 (grow t dim i).nodes.length),(6,.own 6 (g 6) 0 (grow t dim i).leaves.length),(7,.int .i64 i)],
  [(2,⟨[.int .i64 t.cls,.lst t.part.length (encL t.part),.lst t.dir.length (encL t.dir),.lst t.cut.length (encL t.cut),.lst t.val.length (encL t.val)],false,0⟩),(5,⟨encL (grow t dim i).nodes,false,6⟩),(6,⟨encL (grow t dim i).leaves,false,1⟩)],g⟩) (min t.part.length 7) ⟨0,bump 6 (bump 5 (bump 2 g)),by omega,by simp[grow,grow0,leafN,encL]⟩ ?_
 rintro n s ⟨i,g,hi,rfl⟩
 have w1:IntKind.i64.wrap ((i:Int)+1)=(i:Int)+1:=wrap64 (by omega) (by omega)
 by_cases h1:i<min t.part.length 7
 case pos =>
  have hG:=gi t dim d1 d2 i (by omega)
  have hs:grow t dim (i+1)=growS t dim i (grow t dim i):=rfl
  generalize grow t dim i=G at *
  have L1:=hG.len
  have L2:=hG.lvs
  have c1:i<t.part.length:=by omega
  have c2:(i:Int)<7:=by omega
  have c3:G.leaves.length≤maxN:=by unfold maxN;omega
  have c4:G.nodes.length≤maxN:=by unfold maxN;omega
  have w2:IntKind.i64.wrap ((G.leaves.length:Int)-1)=(G.leaves.length:Int)-1:=wrap64 (by omega) (by omega)
  have w3:IntKind.i64.wrap ((G.nodes.length:Int)+1)=(G.nodes.length:Int)+1:=wrap64 (by omega) (by omega)
  have w4:IntKind.i64.wrap (dim-1)=dim-1:=wrap64 (by omega) (by omega)
  have w5:IntKind.i64.wrap (2*(i:Int))=2*(i:Int):=wrap64 (by omega) (by omega)
  have w6:IntKind.i64.wrap (2*(i:Int)+1)=2*(i:Int)+1:=wrap64 (by omega) (by omega)
  have w7:IntKind.i64.wrap (2*(i:Int)+2)=2*(i:Int)+2:=wrap64 (by omega) (by omega)
  have p5:Pick t.val (2*(i:Int)+1)=some (pick t.val (2*i+1)):=pick_of t.val (2*i+1)
  have p6:Pick t.val (2*(i:Int)+2)=some (pick t.val (2*i+2)):=pick_of t.val (2*i+2)
  have v5:=within_of (pick t.val (2*i+1)) (-3000) 3000 (by omega)
  have v6:=within_of (pick t.val (2*i+2)) (-3000) 3000 (by omega)
  have v7:=within_of (pick t.dir i) 0 (dim-1) (by omega)
  have v8:=within_of (pick t.cut i) 0 9 (by omega)
  have v9:=within_of t.part[i] 0 ((G.leaves.length:Int)-1) (by omega)
  have hk:=within_le t.part[i] 0 ((G.leaves.length:Int)-1) (by omega)
  have hkK:growK t i G=(within t.part[i] 0 ((G.leaves.length:Int)-1)).toNat:=by unfold growK;simp[c1]
  generalize within t.part[i] 0 ((G.leaves.length:Int)-1)=K at *
  obtain⟨k,rfl⟩:∃ k:Nat,K=k:=⟨K.toNat,by omega⟩
  simp only[Int.toNat_natCast] at hkK
  have c5:k<G.leaves.length:=by omega
  obtain⟨hl0,hl1,hl2⟩:=hG.leaf _ (List.getElem_mem c5)
  have c6:G.leaves[k]<G.nodes.length:=by omega
  have w8:IntKind.i64.wrap ((k:Int)+1)=(k:Int)+1:=wrap64 (by omega) (by omega)
  have c7:(k:Int)+1≤G.leaves.length:=by omega
  have c8:(k:Int)≤G.leaves.length:=by omega
  have c9:k≤G.leaves.length:=by omega
  have c10:G.leaves[k].toNat*6+6≤G.nodes.length*6:=by omega
  have c11:G.nodes.length≤1099511627774:=by omega
  have c12:k≤1099511627776:=by omega
  have c13:0≤(k:Int)+1:=by omega
  have c14:k+1≤G.leaves.length:=by omega
  have hwr:wr (encL G.nodes) (G.leaves[k].toNat*6) [.bool false,.int .i64 0,.int .i64 (within (pick t.dir i) 0 (dim-1)),.int .i64 (within (pick t.cut i) 0 9),.int .i64 G.nodes.length,.int .i64 (G.nodes.length+1)]=encL (G.nodes.set G.leaves[k].toNat (growN t dim i G.nodes.length)):=wr_row G.nodes _ hl1 (growN t dim i G.nodes.length)
  have htk:List.take (G.nodes.length*6) (encL (G.nodes.set G.leaves[k].toNat (growN t dim i G.nodes.length)))=encL (G.nodes.set G.leaves[k].toNat (growN t dim i G.nodes.length)):=take_rows _ _ (by simp)
  simp -implicitDefEqProofs [hm,c1,c2,c3,c4,c5,c6,c7,c8,c9,c10,c11,c12,c13,c14,hwr,htk,hl0,hl1,w1,w2,w3,w4,w5,w6,w7,w8,p5,p6,v5,v6,v7,v8,v9,pick_of,rd_ints,encL_length]
  have hgl:(growS t dim i G).leaves=G.leaves.take k++G.leaves.drop (k+1)++[(G.nodes.length:Int),G.nodes.length+1]:=by unfold growS;rw[hkK]
  have hgn:(growS t dim i G).nodes=G.nodes.set G.leaves[k].toNat (growN t dim i G.nodes.length)++[leafN (within (pick t.val (2*i+1)) (-3000) 3000),leafN (within (pick t.val (2*i+2)) (-3000) 3000)]:=by
   unfold growS
   have:G.leaves.getD k 0=G.leaves[k]:=by simp[c5]
   rw[hkK,this]
  refine⟨fun _=>⟨fun _=>⟨n-1,by omega,i+1,by omega,⟨?_, ?_,by omega⟩, ?_, ?_⟩,by omega⟩,by omega⟩
  ·rw[hs,hgn];simp
  ·rw[hs,hgl];simp;omega
  ·rw[hs,hgn,encL_append];rfl
  ·rw[hs,hgl,encL_append,encL_append]
   rw[List.take_take,Nat.min_self,List.take_of_length_le (show (G.leaves.drop (k+1)).length≤G.leaves.length-(k+1) by simp)]
   rw[List.take_of_length_le (by rw[List.length_append,encL_length,encL_length];simp;omega)]
   rfl
 case neg =>
  have hil:i=min t.part.length 7:=by omega
  have c1:¬ ((i:Int)<t.part.length∧(i:Int)<7):=by omega
  have hT:treeNodes t dim=(grow t dim i).nodes.map pack:=by rw[hil];rfl
  have hG:=gi t dim d1 d2 i (by omega)
  have hok:∀ n∈(grow t dim i).nodes,rightNode n=true:=hG.ok
  have L1:=hG.len
  rw[hT]
  generalize (grow t dim i).nodes=l at *
  have c3:l.length≤maxN:=by unfold maxN;omega
  have hl:l.length≤31:=by omega
  by_cases c2:(i:Int)<t.part.length
  case pos =>
   have c4:¬ (i:Int)<7:=by omega
   simp -implicitDefEqProofs [hm,c2,c4,c3]
   exact nodes_out (fun n=>by simp) l hl (bump 11 g) _ (by simp)
  case neg =>
   simp -implicitDefEqProofs [hm,c2,c3]
   exact nodes_out (fun n=>by simp) l hl (bump 11 g) _ (by simp)
theorem c_Nodes:Contract Tryz.prog 28 (sp2 NodesC) :=
 contract_of_runs mixed (tbl_cons c_pick (tbl_cons c_Within (tbl_cons c_rPack tbl_nil))) Tryz.func28 m28 (sp2_runs runs_Nodes)
end Go.Co
/- CO: the model that numbers make. -/
set_option maxHeartbeats 16000000
set_option maxRecDepth 100000
namespace Go.Co
open Go.Am Go.Proofs
def c10_25:ACode:=.seq (.seq (.ops [⟨some 27,.mv (.t 5),none,[]⟩,⟨some 28,.fad (.t 1) 3,none,[1]⟩,⟨some 29,.load 1 false (.t 28),none,[1]⟩,⟨some 30,.len (.t 29),none,[]⟩,⟨some 31,.bin .lss (.t 27) (.t 30),none,[]⟩,⟨some 32,.mv (.t 31),none,[]⟩,⟨some 33,.mv (.t 5),some (32,true),[]⟩,⟨some 34,.bin .lss (.t 33) (.c (.int .i64 4)),some (32,true),[]⟩,⟨some 35,.pick (.t 32) (.t 34) (.c (.bool false)),none,[]⟩] [1,2,3,5,35]) (.cond (.t 35) .skip (.exit 2))) (.seq (.block 3 (.ops [⟨some 38,.fad (.t 3) 5,none,[3]⟩,⟨some 39,.load 1 false (.t 38),none,[3]⟩,⟨some 40,.fad (.t 1) 3,none,[1]⟩,⟨some 41,.load 1 false (.t 40),none,[1]⟩,⟨some 42,.mv (.t 5),none,[]⟩,⟨some 43,.ias (.t 41) (.t 42) 5,none,[]⟩,⟨some 44,.fad (.t 43) 0,none,[]⟩,⟨some 45,.load 1 false (.t 44),none,[]⟩,⟨some 46,.fad (.t 3) 1,none,[3]⟩,⟨some 47,.load 1 false (.t 46),none,[3]⟩,⟨some 48,.bin .sub (.t 47) (.c (.int .i64 1)),none,[]⟩,⟨some 49,.call 17 [.t 45,.c (.int .i64 0),.t 48],none,[]⟩,⟨some 50,.fad (.t 1) 3,none,[1]⟩,⟨some 51,.load 1 false (.t 50),none,[1]⟩,⟨some 52,.mv (.t 5),none,[]⟩,⟨some 53,.ias (.t 51) (.t 52) 5,none,[]⟩,⟨some 54,.load 5 true (.t 53),none,[]⟩,⟨some 55,.fad (.t 3) 0,none,[3]⟩,⟨some 56,.load 1 false (.t 55),none,[3]⟩,⟨some 57,.call 28 [.t 54,.t 56],none,[]⟩,⟨some 58,.build [.int .i64 0,.nils] [(0,1,.t 49),(1,1,.t 57)],none,[]⟩,⟨some 59,.mkrow 59 1 2 [.int .i64 0,.nils] [(0,2,.t 58)],none,[]⟩,⟨some 60,.app 10305 [10305] (.t 39) (.t 59) 2,none,[59,10305]⟩,⟨some 61,.fad (.t 3) 5,none,[3]⟩,⟨none,.store (.t 61) 1 (.t 60),none,[3]⟩] [1,2,3,5])) (.ops [⟨some 36,.mv (.t 5),none,[]⟩,⟨some 37,.bin .add (.t 36) (.c (.int .i64 1)),none,[]⟩,⟨some 5,.mv (.t 37),none,[]⟩] [1,2,3,5]))
theorem r10_25:type_of% (rr c10_25.eq_1):=rr rfl
def c10_26:ACode:=.keep [1,2,3,5] [1,2,3,10305] c10_25
theorem r10_26:type_of% (rr c10_26.eq_1):=rr rfl
def c10_27:ACode:=.loop c10_26
theorem r10_27:type_of% (rr c10_27.eq_1):=rr rfl
def c10_31:ACode:=.seq (.ops [⟨some 62,.load 6 true (.t 3),none,[3]⟩,⟨none,.store (.t 2) 6 (.t 62),none,[2]⟩] [2]) .ret
theorem r10_31:type_of% (rr c10_31.eq_1):=rr rfl
def c10_35:ACode:=.seq (.ops [⟨some 1,.box (.t 0) 4,none,[]⟩,⟨some 2,.alloc [.int .i64 0,.int .i64 0,.int .i64 0,.int .i64 0,.int .i64 0,.nils],none,[]⟩] [1,2]) (.seq (.ops [⟨some 6,.fad (.t 1) 0,none,[1]⟩,⟨some 7,.load 1 false (.t 6),none,[1]⟩,⟨some 8,.call 17 [.t 7,.c (.int .i64 1),.c (.int .i64 3)],none,[]⟩,⟨some 9,.fad (.t 1) 1,none,[1]⟩,⟨some 10,.load 1 false (.t 9),none,[1]⟩,⟨some 11,.call 17 [.t 10,.c (.int .i64 1),.c (.int .i64 3)],none,[]⟩,⟨some 12,.build [.int .i64 0,.int .i64 0,.int .i64 0,.int .i64 0,.int .i64 0,.nils] [(0,1,.t 8),(1,1,.t 11)],none,[]⟩,⟨some 3,.alloc [.int .i64 0,.int .i64 0,.int .i64 0,.int .i64 0,.int .i64 0,.nils],none,[]⟩,⟨none,.store (.t 3) 6 (.t 12),none,[3]⟩] [1,2,3]) (.seq (.seq (.ops [⟨some 13,.fad (.t 3) 1,none,[3]⟩,⟨some 14,.load 1 false (.t 13),none,[3]⟩,⟨some 15,.mv (.c (.int .i64 0)),none,[]⟩] [1,2,3,14,15]) (.block 0 (.loop (.keep [1,2,3,14,15] [1,2,3,10305] (.seq (.ops [⟨some 16,.bin .lss (.t 15) (.t 14),none,[]⟩] [1,2,3,14,15,16]) (.seq (.cond (.t 16) .skip (.exit 0)) (.seq (.block 1 (.seq (.ops [⟨some 17,.mv (.t 15),none,[]⟩,⟨some 4,.mv (.t 17),none,[]⟩] [1,2,3,4,14,15]) (.ops [⟨some 18,.mv (.t 4),none,[]⟩,⟨some 19,.fad (.t 1) 2,none,[1]⟩,⟨some 20,.load 1 false (.t 19),none,[1]⟩,⟨some 21,.mv (.t 4),none,[]⟩,⟨some 22,.call 27 [.t 20,.t 21],none,[]⟩,⟨some 23,.call 17 [.t 22,.c (.int .i64 (-500)),.c (.int .i64 500)],none,[]⟩,⟨some 24,.fad (.t 3) 2,none,[3]⟩,⟨some 25,.iad (.t 24) (.t 18) 1 3,none,[3]⟩,⟨none,.store (.t 25) 1 (.t 23),none,[3]⟩] [1,2,3,14,15]))) (.ops [⟨some 26,.bin .add (.t 15) (.c (.int .i64 1)),none,[]⟩,⟨some 15,.mv (.t 26),none,[]⟩] [1,2,3,14,15])))))))) (.seq (.seq (.ops [⟨some 5,.mv (.c (.int .i64 0)),none,[]⟩] [1,2,3,5]) (.block 2 c10_27)) c10_31)))
theorem r10_35:type_of% (rr c10_35.eq_1):=rr rfl
def a10:AFun:=⟨1,63,c10_35,[.cell 2 6 true]⟩
attribute [simp] r10_25 r10_26 r10_27 r10_31 r10_35
theorem m10:mFun Tryz.prog Tryz.f10 a10=true:=by decide +kernel
theorem rd_ktree (l:List KTree) (i:Nat) (h:i<l.length):rd (encL l) (i*5) 5 true=some (.agg [.int .i64 l[i].cls,.lst l[i].part.length (encL l[i].part),.lst l[i].dir.length (encL l[i].dir),.lst l[i].cut.length (encL l[i].cut),.lst l[i].val.length (encL l[i].val)]):=rd_row l i h
theorem rd_ktree0 (l:List KTree) (i:Nat) (h:i<l.length):rd (encL l) (i*5) 1 false=some (.int .i64 l[i].cls):=rd_cell l i 0 h (by decide)
def fcells (f:Forest):List AV:=[.int .i64 f.dim,.int .i64 f.classes,.lst f.bias.length (encL f.bias),.lst f.trees.length (encL f.trees)]
theorem forest_trees {C:Cs} (hW:∀ n lo hi:Int,C 17 [.int .i64 n,.int .i64 lo,.int .i64 hi]=(Within n lo hi).map Arg.enc)
  (hN:∀(t:KTree) (dim:Int),C 28 [.agg [.int .i64 t.cls,.lst t.part.length (encL t.part),.lst t.dir.length (encL t.dir),.lst t.cut.length (encL t.cut),.lst t.val.length (encL t.val)],.int .i64 dim]=(NodesC t dim).map Arg.enc)
  (f:Forest) (b:Bias) (g:Nat→Nat) (h:Hp)
  (hh:keepH h [1,2,3,10305]=[(1,⟨fcells f,false,0⟩),(2,⟨[.int .i64 0,.int .i64 0,.int .i64 0,.int .i64 0,.int .i64 0,.nils],false,0⟩),(3,⟨[.int .i64 (mDim f),.int .i64 (mClasses f),.int .i64 b.b0,.int .i64 b.b1,.int .i64 b.b2,.nils],false,0⟩)]) :
  run C (.loop c10_26) [Fr.blk 2,Fr.c c10_31] ⟨[(1,.ptr 1 (g 1) 0),(2,.ptr 2 (g 2) 0),(3,.ptr 3 (g 3) 0),(5,.int .i64 0)],h,g⟩
   (fin [ARes.cell 2 6 true] (Arg.enc (⟨mDim f,mClasses f,b,(f.trees.take 4).map (mTree f)⟩:Model))):=by
 have hd:=mDim_le f
 have hc:=mClasses_le f
 by_cases hm:f.trees.length≤maxN
 case neg =>
  rw[run_round]
  unfold c10_26
  rw[run_keep]
  simp only[hh]
  simp -implicitDefEqProofs [hm,fcells]
 refine run_while (c:=c10_25) (fun n s=>∃(i:Nat) (g:Nat→Nat),i+n=min f.trees.length 4∧s=⟨[(1,.ptr 1 (g 1) 0),(2,.ptr 2 (g 2) 0),(3,.ptr 3 (g 3) 0),(5,.int .i64 i)],
  (1,⟨fcells f,false,0⟩)::(2,⟨[.int .i64 0,.int .i64 0,.int .i64 0,.int .i64 0,.int .i64 0,.nils],false,0⟩)::(3,⟨[.int .i64 (mDim f),.int .i64 (mClasses f),.int .i64 b.b0,.int .i64 b.b1,.int .i64 b.b2,if i=0 then .nils else .own 10305 (g 10305) 0 i],false,0⟩) ::
   (if i=0 then [] else [(10305,⟨encL ((f.trees.map (mTree f)).take i),false,2⟩)]),g⟩) (min f.trees.length 4) ⟨0,g,by omega, ?_⟩ ?_
 ·simp only[hh]
  simp
 rintro n s ⟨i,g,hi,rfl⟩
 have w1:IntKind.i64.wrap ((i:Int)+1)=(i:Int)+1:=wrap64 (by omega) (by omega)
 by_cases h1:i<min f.trees.length 4
 case pos =>
  have c1:i<f.trees.length:=by omega
  have c2:(i:Int)<4:=by omega
  have r1:=rd_ktree f.trees i c1
  have r0:=rd_ktree0 f.trees i c1
  have w2:IntKind.i64.wrap (mClasses f-1)=mClasses f-1:=wrap64 (by omega) (by omega)
  have v1:=within_of f.trees[i].cls 0 (mClasses f-1) (by omega)
  have v2:NodesC f.trees[i] (mDim f)=some (treeNodes f.trees[i] (mDim f)):=part_of ⟨hd.1,by omega⟩ _
  have c3:i≤1099511627775:=by omega
  have hL:((f.trees.map (mTree f)).take i).length=i:=by simp;omega
  have c4:i≤f.trees.length:=by omega
  have c5:i*2≤(encL ((f.trees.map (mTree f)).take i)).length:=by rw[encL_length,hL];exact Nat.le_refl _
  have htk:List.take (i*2) (encL ((f.trees.map (mTree f)).take i))=encL ((f.trees.map (mTree f)).take i):=take_rows _ _ (by rw[hL];exact Nat.le_refl _)
  have he:encL ((f.trees.map (mTree f)).take (i+1))=encL ((f.trees.map (mTree f)).take i)++[.int .i64 (within f.trees[i].cls 0 (mClasses f-1)),.lst (treeNodes f.trees[i] (mDim f)).length (encL (treeNodes f.trees[i] (mDim f)))]:=by
   rw[List.take_succ_eq_append_getElem (show i<(f.trees.map (mTree f)).length by simpa using c1),encL_append,List.getElem_map]
   rfl
  by_cases hz:i=0
  ·subst hz
   simp -implicitDefEqProofs [hm,fcells,c1,c2,r0,r1,w1,w2,hW,hN,v1,v2]
   refine⟨n-1,by omega,1,by omega,by omega,by rw[if_neg (by omega)], ?_⟩
   rw[if_neg (by omega),he]
   rfl
  ·simp -implicitDefEqProofs [hm,fcells,c1,c2,r0,r1,w1,w2,hW,hN,v1,v2,hz,c3,c5,htk]
   refine⟨n-1,by omega,i+1,by omega,by omega,by rw[if_neg (by omega)], ?_⟩
   rw[if_neg (by omega),he]
 case neg =>
  have hil:i=min f.trees.length 4:=by omega
  have ht:f.trees.take 4=f.trees.take i:=by
   rw[hil]
   by_cases h4:f.trees.length≤4
   ·rw[List.take_of_length_le h4,List.take_of_length_le (by omega)]
   ·rw[show min f.trees.length 4=4 by omega]
  have hT:(f.trees.take 4).map (mTree f)=(f.trees.map (mTree f)).take i:=by rw[ht,List.map_take]
  have hL:((f.trees.map (mTree f)).take i).length=i:=by simp;omega
  have htk:List.take (i*2) (encL ((f.trees.map (mTree f)).take i))=encL ((f.trees.map (mTree f)).take i):=take_rows _ _ (by rw[hL];exact Nat.le_refl _)
  have c5:i*2≤(encL ((f.trees.map (mTree f)).take i)).length:=by rw[encL_length,hL];exact Nat.le_refl _
  rw[hT]
  by_cases hz:i=0
  ·subst hz
   by_cases k1:(0:Int)<f.trees.length
   ·omega
   ·have k2:¬ 0<f.trees.length:=by omega
    simp -implicitDefEqProofs [hm,fcells,k2]
    rfl
  ·by_cases k1:(i:Int)<f.trees.length
   ·have k2:¬ (i:Int)<4:=by omega
    simp -implicitDefEqProofs [hm,fcells,k1,k2,hz,c5,htk]
    omega
   ·simp -implicitDefEqProofs [hm,fcells,k1,hz,c5,htk]
    omega
noncomputable def ModelC (f:Forest):Option Model:=some (modelOf f)
theorem runs_Model (f:Forest) (c:Model) (h:ModelC f=some c):Runs (tbl [(27,sp2 Pick),(17,sp3 Within),(28,sp2 NodesC)]) a10 [Arg.enc f] (Arg.enc c):=by
 cases h
 refine⟨rfl,fun g=>run_def ?_⟩
 unfold a10
 have v1:Within f.dim 1 3=some (mDim f):=within_of f.dim 1 3 (by omega)
 have v2:Within f.classes 1 3=some (mClasses f):=within_of f.classes 1 3 (by omega)
 have hc:=mClasses_le f
 have p0:=pick_of f.bias 0
 have p1:Pick f.bias 1=some (pick f.bias 1):=pick_of f.bias 1
 have p2:Pick f.bias 2=some (pick f.bias 2):=pick_of f.bias 2
 have v3:=within_of (pick f.bias 0) (-500) 500 (by omega)
 have v4:=within_of (pick f.bias 1) (-500) 500 (by omega)
 have v5:=within_of (pick f.bias 2) (-500) 500 (by omega)
 have b0:within (pick f.bias 0) (-500) 500=mBias f 0:=by unfold mBias;rw[if_pos (by omega)]
 rw[b0] at v3
 have hcc:mClasses f=1∨mClasses f=2∨mClasses f=3:=by omega
 have hW:∀ n lo hi:Int,tbl [(27,sp2 Pick),(17,sp3 Within),(28,sp2 NodesC)] 17 [.int .i64 n,.int .i64 lo,.int .i64 hi]=(Within n lo hi).map Arg.enc:=fun n lo hi=>by simp
 have hN:∀(t:KTree) (dim:Int),tbl [(27,sp2 Pick),(17,sp3 Within),(28,sp2 NodesC)] 28 [.agg [.int .i64 t.cls,.lst t.part.length (encL t.part),.lst t.dir.length (encL t.dir),.lst t.cut.length (encL t.cut),.lst t.val.length (encL t.val)],.int .i64 dim]=(NodesC t dim).map Arg.enc:=fun t dim=>by simp
 rcases hcc with hcc|hcc|hcc
 ·have z1:mBias f 1=0:=by unfold mBias;rw[if_neg (by omega)]
  have z2:mBias f 2=0:=by unfold mBias;rw[if_neg (by omega)]
  simp -implicitDefEqProofs [v1,v2,v3,p0,pick_0,hcc,run_round,-r10_27]
  exact forest_trees hW hN f ⟨mBias f 0,mBias f 1,mBias f 2⟩ (bump 3 (bump 2 (bump 1 g))) _ (by simp[hcc,fcells,z1,z2])
 ·have b1:within (pick f.bias 1) (-500) 500=mBias f 1:=by unfold mBias;rw[if_pos (by omega)]
  rw[b1] at v4
  have z2:mBias f 2=0:=by unfold mBias;rw[if_neg (by omega)]
  simp -implicitDefEqProofs [v1,v2,v3,v4,p0,p1,pick_0,hcc,run_round,-r10_27]
  exact forest_trees hW hN f ⟨mBias f 0,mBias f 1,mBias f 2⟩ (bump 3 (bump 2 (bump 1 g))) _ (by simp[hcc,fcells,z2])
 ·have b1:within (pick f.bias 1) (-500) 500=mBias f 1:=by unfold mBias;rw[if_pos (by omega)]
  have b2:within (pick f.bias 2) (-500) 500=mBias f 2:=by unfold mBias;rw[if_pos (by omega)]
  rw[b1] at v4
  rw[b2] at v5
  simp -implicitDefEqProofs [v1,v2,v3,v4,v5,p0,p1,p2,pick_0,hcc,run_round,-r10_27]
  exact forest_trees hW hN f ⟨mBias f 0,mBias f 1,mBias f 2⟩ (bump 3 (bump 2 (bump 1 g))) _ (by simp[hcc,fcells])
theorem c_Model:Contract Tryz.prog 10 (sp1 ModelC) :=
 contract_of_runs mixed (tbl_cons c_pick (tbl_cons c_Within (tbl_cons c_Nodes tbl_nil))) Tryz.func10 m10 (sp1_runs runs_Model)
end Go.Co
/- CO: slices made pure, one level at a time. -/
namespace Go.Co
open Go.Am
section
variable {s:St} {fp:List Nat} {m:Nat}
end
end Go.Co
/- CO: specifications of calls that are given blocks. -/
namespace Go.Am
open Go.RowKit
abbrev GSp:=List AV→Hp→Option (AV×Hp)
def gpack (p:AV×Hp):Option AV:=if (p.2.all fun q => !q.2.frz)=true then some (.tup (p.1::encs p.2)) else none
def gspec (F:GSp):List AV→Option AV:=fun l=>match l.getLast? with
 | some (.tup xs)=>match decs xs with
  | some h=>(F l.dropLast h).bind gpack
  | none=>none
 | _=>none
theorem gspec_app {F:GSp} {args:List AV} {h:Hp} (hf:(h.all fun q => !q.2.frz)=true):gspec F (args++[.tup (encs h)])=(F args h).bind gpack:=by
 unfold gspec
 simp[decs_encs hf]
theorem gspec_some {F:GSp} {args:List AV} {h h':Hp} {r:AV} (hf:(h.all fun q => !q.2.frz)=true) (hf':(h'.all fun q => !q.2.frz)=true) (hs:gspec F (args++[.tup (encs h)])=some (.tup (r::encs h'))):F args h=some (r,h'):=by
 rw[gspec_app hf] at hs
 rw[Option.bind_eq_some_iff] at hs
 obtain⟨⟨r1,h1⟩,h2,h3⟩:=hs
 unfold gpack at h3
 split at h3
 ·rename_i hq
  simp only[Option.some.injEq,AV.tup.injEq,List.cons.injEq] at h3
  obtain⟨rfl,h4⟩:=h3
  have e:h1=h':=encs_inj hq hf' h4
  rw[h2,e]
 ·cases h3
theorem enters_of {P : Program} {f : FuncId} {fn : Func} {c : Code} (hf : P.funcs[f]? = some fn) (hb : fn.body = some c) (hn : fn.name ≠ "runtime.NumGoroutine") (args : Array Value) (w : World) : (callFunc f args).run P w = .ok (.enter f args) w := by
 have : ((fn.name == "runtime.NumGoroutine") = false) := by simpa using hn
 simp only[callFunc,Sem.run_bind,run_program,Result.andThen_ok,hf,this,hb]
 rfl
theorem gcontract {P:Program} {C:Cs} (hm:P.follows .mixedOrders=true) (hC:∀ f,Contract P f (C f)) {f:FuncId} {fn:Func} {A:AFun} {F:GSp} (hf:P.funcs[f]? = some fn) (hfun:mFun P fn A=true)
  (hr:∀ args h r h',(h.all fun p => !p.2.frz)=true→(h'.all fun p => !p.2.frz)=true→F args h=some (r,h')→args.length=A.np∧∃ kept,wpC C A.code { t:=argEnv 0 args,h:=h,g:=fun _=>0 } (gfin A.res kept r h')):Contract P (gBase+f) (gspec F) :=
 gcontract_of_run hm hC hf hfun fun args h r h' h1 h2 hs=>hr args h r h' h1 h2 (gspec_some h1 h2 hs)
def gfinN (rs:List ARes) (kept:Bool) (new:Option Nat) (r:AV) (h':Hp):Post:=fun e s=>match e with
 | .normal|.ret=>ghanded s rs kept new=some (r,h')
 | .exit _=>False
@[simp] theorem gfinN_ret {s:St} (rs:List ARes) (kept:Bool) (new:Option Nat) (r:AV) (h':Hp):gfinN rs kept new r h' .ret s=(ghanded s rs kept new=some (r,h')):=rfl
@[simp] theorem gfinN_normal {s:St} (rs:List ARes) (kept:Bool) (new:Option Nat) (r:AV) (h':Hp):gfinN rs kept new r h' .normal s=(ghanded s rs kept new=some (r,h')):=rfl
theorem gfinN_fin {rs:List ARes} {kept:Bool} {new:Option Nat} {r:AV} {h':Hp} (e:Ex) (s:St) (h:gfinN rs kept new r h' e s):gfin rs kept r h' e s:=by
 cases e with
 | normal=>exact⟨new,h⟩
 | ret=>exact⟨new,h⟩
 | exit id=>exact h
theorem gcontractN {P:Program} {C:Cs} (hm:P.follows .mixedOrders=true) (hC:∀ f,Contract P f (C f)) {f:FuncId} {fn:Func} {A:AFun} {F:GSp} (hf:P.funcs[f]? = some fn) (hfun:mFun P fn A=true)
  (hr:∀ args h r h',F args h=some (r,h')→args.length=A.np∧∃ kept new,run C A.code [] { t:=argEnv 0 args,h:=h,g:=fun _=>0 } (gfinN A.res kept new r h')):Contract P (gBase+f) (gspec F) :=
 gcontract hm hC hf hfun fun args h r h' _ _ hs=>by
  obtain⟨h1,kept,new,h2⟩:=hr args h r h' hs
  exact⟨h1,kept,wpC_mono _ _ _ _ gfinN_fin (run_def h2)⟩
theorem gcontract2 {P:Program} {C:Cs} (hm:P.follows .mixedOrders=true) (hC:∀ f,Contract P f (C f)) {f:FuncId} {fn:Func} {A:AFun} {F:GSp} (hf:P.funcs[f]? = some fn) (hfun:mFun P fn A=true)
  (hr:∀ args h r h',(h.all fun p => !p.2.frz)=true→(h'.all fun p => !p.2.frz)=true→F args h=some (r,h')→args.length=A.np∧∃ kept,wpC C A.code { t:=argEnv 0 args,h:=h,g:=fun _=>0 } (gfin2 A.res kept r h')):Contract P (gBase+f) (gspec F) :=
 gcontract_of_run2 hm hC hf hfun fun args h r h' h1 h2 hs=>hr args h r h' h1 h2 (gspec_some h1 h2 hs)
def gfinN2 (rs:List ARes) (kept:Bool) (n1 n2:Option Nat) (r:AV) (h':Hp):Post:=fun e s=>match e with
 | .normal|.ret=>ghanded2 s rs kept n1 n2=some (r,h')
 | .exit _=>False
@[simp] theorem gfinN2_ret {s:St} (rs:List ARes) (kept:Bool) (n1 n2:Option Nat) (r:AV) (h':Hp):gfinN2 rs kept n1 n2 r h' .ret s=(ghanded2 s rs kept n1 n2=some (r,h')):=rfl
@[simp] theorem gfinN2_normal {s:St} (rs:List ARes) (kept:Bool) (n1 n2:Option Nat) (r:AV) (h':Hp):gfinN2 rs kept n1 n2 r h' .normal s=(ghanded2 s rs kept n1 n2=some (r,h')):=rfl
theorem gfinN2_fin {rs:List ARes} {kept:Bool} {n1 n2:Option Nat} {r:AV} {h':Hp} (e:Ex) (s:St) (h:gfinN2 rs kept n1 n2 r h' e s):gfin2 rs kept r h' e s:=by
 cases e with
 | normal=>exact⟨n1,n2,h⟩
 | ret=>exact⟨n1,n2,h⟩
 | exit id=>exact h
theorem gcontractN2 {P:Program} {C:Cs} (hm:P.follows .mixedOrders=true) (hC:∀ f,Contract P f (C f)) {f:FuncId} {fn:Func} {A:AFun} {F:GSp} (hf:P.funcs[f]? = some fn) (hfun:mFun P fn A=true)
  (hr:∀ args h r h',F args h=some (r,h')→args.length=A.np∧∃ kept n1 n2,run C A.code [] { t:=argEnv 0 args,h:=h,g:=fun _=>0 } (gfinN2 A.res kept n1 n2 r h')):Contract P (gBase+f) (gspec F) :=
 gcontract2 hm hC hf hfun fun args h r h' _ _ hs=>by
  obtain⟨h1,kept,n1,n2,h2⟩:=hr args h r h' hs
  exact⟨h1,kept,wpC_mono _ _ _ _ gfinN2_fin (run_def h2)⟩
attribute [simp] geff up up2 up1 gmap posOf nrm1 nrm garg gblks ghanded nope gpack geff2 gmap2 ghanded2
@[simp] theorem mapM1_nil (f:AV→Option AV):mapM1 f []=some []:=rfl
@[simp] theorem mapM1_cons (f:AV→Option AV) (x:AV) (xs:List AV):mapM1 f (x::xs)=(match f x,mapM1 f xs with
  | some y,some ys=>some (y::ys)
  | _,_=>none):=rfl
theorem mapM1_plain {f:AV→Option AV} (hf:∀ x:AV,x.plain=true→f x=some x):∀ {xs:List AV},xs.all AV.plain=true→mapM1 f xs=some xs
 | [],_=>rfl
 | x::xs,h=>by
  simp only[List.all_cons,Bool.and_eq_true] at h
  simp only[mapM1,hf x h.1,mapM1_plain hf h.2]
theorem up1_plain {m:Nat→Option (Nat×Nat)} (x:AV) (h:x.plain=true):up1 m x=some x:=by cases x<;>first|rfl|cases h
theorem nrm1_plain {s:St} {fp bs:List Nat} (x:AV) (h:x.plain=true):nrm1 s fp bs x=some x:=by cases x<;>first|rfl|cases h
theorem mapM1_up {m:Nat→Option (Nat×Nat)} {xs:List AV} (h:xs.all AV.plain=true):mapM1 (up1 m) xs=some xs:=mapM1_plain up1_plain h
theorem mapM1_nrm {s:St} {fp bs:List Nat} {xs:List AV} (h:xs.all AV.plain=true):mapM1 (nrm1 s fp bs) xs=some xs:=mapM1_plain nrm1_plain h
@[simp] theorem decs_encs_one (b e:Nat) (cs:List AV):decs (encs [(b,⟨cs,false,e⟩)])=some [(b,⟨cs,false,e⟩)]:=rfl
@[simp] theorem decs_encs_nil:decs (encs [])=some []:=rfl
@[simp] theorem decs_encs_two (b e b' e':Nat) (cs cs':List AV):decs (encs [(b,⟨cs,false,e⟩),(b',⟨cs',false,e'⟩)])=some [(b,⟨cs,false,e⟩),(b',⟨cs',false,e'⟩)]:=rfl
@[simp] theorem decs_encs_three (b e b' e' b2 e2:Nat) (cs cs' c2:List AV):decs (encs [(b,⟨cs,false,e⟩),(b',⟨cs',false,e'⟩),(b2,⟨c2,false,e2⟩)])=some [(b,⟨cs,false,e⟩),(b',⟨cs',false,e'⟩),(b2,⟨c2,false,e2⟩)]:=rfl
@[irreducible] def gl (vs:List AV) (h:Hp):List AV:=vs++[.tup (encs h)]
@[simp] theorem gspec_gl {F:GSp} {args:List AV} {h:Hp} (hh:(h.all fun q => !q.2.frz)=true):gspec F (gl args h)=(F args h).bind gpack:=by
 unfold gl
 exact gspec_app hh
def gcal (C:Cs) (f:Nat) (vs:List AV) (h:Hp):Option (AV×Hp):=match C (1000000+f) (gl vs h) with
 | some (.tup (r::out))=>(decs out).map fun h'=>(r,h')
 | _=>none
variable {C:Cs} {s:St} {dst:Option Nat} {gd:Option (Nat×Bool)} {fp:List Nat}
theorem eff_gcall2 (f:Nat) (args:List AOpd) (bs:List Nat) (nid:Nat):eff C s ⟨dst,.gcall f args bs nid,gd,fp⟩=(match mapO (garg s fp bs) (args.map (opv s)),gblks s fp bs bs 0 with
  | some (vs,fz),some h=>if fz.all (fun b => !bs.contains b)=true then (match gcal C f vs h with
   | some (r,h')=>geff s bs nid fz r h'
   | none=>.fail) else .fail
  | _,_=>.fail):=by
 rw[eff_gcall]
 generalize mapO (garg s fp bs) (args.map (opv s))=A
 generalize gblks s fp bs bs 0=B
 cases A with
 | none=>rfl
 | some p =>
  obtain⟨vs,fz⟩:=p
  cases B with
  | none=>rfl
  | some h =>
   simp only[]
   by_cases hc:(fz.all fun b => !bs.contains b)=true
   ·rw[if_pos hc,if_pos hc]
    unfold gcal
    have e:gl vs h=vs++[.tup (encs h)]:=by unfold gl;rfl
    rw[e]
    generalize C (1000000+f) (vs++[AV.tup (encs h)])=X
    cases X with
    | none=>rfl
    | some x =>
     cases x with
     | tup xs =>
      cases xs with
      | nil=>rfl
      | cons r out =>
       simp only[]
       cases decs out<;>rfl
     | _=>rfl
   ·rw[if_neg hc,if_neg hc]
theorem eff_gcal22 (f:Nat) (args:List AOpd) (bs:List Nat) (n1 n2:Nat):eff C s ⟨dst,.gcal2 f args bs n1 n2,gd,fp⟩=(match mapO (garg s fp bs) (args.map (opv s)),gblks s fp bs bs 0 with
  | some (vs,fz),some h=>if fz.all (fun b => !bs.contains b)=true then (match gcal C f vs h with
   | some (r,h')=>geff2 s bs n1 n2 fz r h'
   | none=>.fail) else .fail
  | _,_=>.fail):=by
 rw[eff_gcal2]
 generalize mapO (garg s fp bs) (args.map (opv s))=A
 generalize gblks s fp bs bs 0=B
 cases A with
 | none=>rfl
 | some p =>
  obtain⟨vs,fz⟩:=p
  cases B with
  | none=>rfl
  | some h =>
   simp only[]
   by_cases hc:(fz.all fun b => !bs.contains b)=true
   ·rw[if_pos hc,if_pos hc]
    unfold gcal
    have e:gl vs h=vs++[.tup (encs h)]:=by unfold gl;rfl
    rw[e]
    generalize C (1000000+f) (vs++[AV.tup (encs h)])=X
    cases X with
    | none=>rfl
    | some x =>
     cases x with
     | tup xs =>
      cases xs with
      | nil=>rfl
      | cons r out =>
       simp only[]
       cases decs out<;>rfl
     | _=>rfl
   ·rw[if_neg hc,if_neg hc]
attribute [simp] eff_gcall2 eff_gcal22 gcal
end Go.Am
/- CO: lists held against each other: told of the same list twice. (written by mkCoSm.py) -/
namespace Go.Co
open Go.Am Go.Proofs
attribute [-simp] Go.Am.eff_gcall
end Go.Co
/-
  DERIVED: THE SHELF's CONTRACTS AT THIS DUMP, IN PLAIN WORDS (tools/lay-plain.mjs out of 'TryShelf.lean', which tools/lay-shelf.mjs wrote): THE SAME DECLARATIONS UNDER THE SAME NAMES: 'import', 'namespace', 'open', 'def', 'theorem' AND NOTHING ELSE: no command of the shelf's: FOR A HAND-IN. Each laying: the table of numbers ('.._ren') and one theorem, a field a fact of the dump's own or the kernel's comparison; each contract: ONE APPLICATION.
-/
namespace Go.Proofs
open Go.Shelf
def Tryz.lays189_ren:Go.Shelf.Ren:=⟨fun|189=>120|125=>157|257=>156|128=>192|129=>193|294=>183|295=>184|296=>185|297=>186|298=>187|299=>188|216=>189|300=>190|301=>191|328=>212|329=>213|330=>214|331=>215|332=>216|215=>217|343=>230|n=>n,fun|28=>22|3=>3|46=>141|0=>0|51=>242|53=>87|4=>4|183=>253|182=>252|131=>74|5=>5|9=>9|218=>274|222=>277|228=>284|229=>144|n=>n,fun|n=>n⟩
theorem Tryz.lays189:Go.Proofs.Lays.n189 Tryz.prog Tryz.lays189_ren:={
 mixed:=by kernel_rfl
 f125:=Tryz.func157.trans (congrArg some (by kernel_rfl))
 f128:=Tryz.func192.trans (congrArg some (by kernel_rfl))
 f129:=Tryz.func193.trans (congrArg some (by kernel_rfl))
 f189:=Tryz.func120.trans (congrArg some (by kernel_rfl))
 f215:=Tryz.func217.trans (congrArg some (by kernel_rfl))
 f216:=Tryz.func189.trans (congrArg some (by kernel_rfl))
 f257:=Tryz.func156.trans (congrArg some (by kernel_rfl))
 f294:=Tryz.func183.trans (congrArg some (by kernel_rfl))
 f295:=Tryz.func184.trans (congrArg some (by kernel_rfl))
 f296:=Tryz.func185.trans (congrArg some (by kernel_rfl))
 f297:=Tryz.func186.trans (congrArg some (by kernel_rfl))
 f298:=Tryz.func187.trans (congrArg some (by kernel_rfl))
 f299:=Tryz.func188.trans (congrArg some (by kernel_rfl))
 f300:=Tryz.func190.trans (congrArg some (by kernel_rfl))
 f301:=Tryz.func191.trans (congrArg some (by kernel_rfl))
 f328:=Tryz.func212.trans (congrArg some (by kernel_rfl))
 f329:=Tryz.func213.trans (congrArg some (by kernel_rfl))
 f330:=Tryz.func214.trans (congrArg some (by kernel_rfl))
 f331:=Tryz.func215.trans (congrArg some (by kernel_rfl))
 f332:=Tryz.func216.trans (congrArg some (by kernel_rfl))
 f343:=Tryz.func230.trans (congrArg some (by kernel_rfl))
 t0:=Tryz.underlying0
 a0:=Tryz.isAgg0
 z0:=Tryz.sizeOf0
 v0:=Tryz.zeroValue0
 t3:=Tryz.underlying3
 a3:=Tryz.isAgg3
 z3:=Tryz.sizeOf3
 v3:=Tryz.zeroValue3
 t4:=Tryz.underlying4
 a4:=Tryz.isAgg4
 z4:=Tryz.sizeOf4
 v4:=Tryz.zeroValue4
 t5:=Tryz.underlying5
 a5:=Tryz.isAgg5
 z5:=Tryz.sizeOf5
 v5:=Tryz.zeroValue5
 t9:=Tryz.underlying9
 a9:=Tryz.isAgg9
 z9:=Tryz.sizeOf9
 v9:=Tryz.zeroValue9
 t28:=Tryz.underlying22
 a28:=Tryz.isAgg22
 z28:=Tryz.sizeOf22
 v28:=Tryz.zeroValue22
 t46:=Tryz.underlying141
 a46:=Tryz.isAgg141
 z46:=Tryz.sizeOf141
 v46:=Tryz.zeroValue141
 t51:=Tryz.underlying242
 a51:=Tryz.isAgg242
 z51:=Tryz.sizeOf242
 v51:=Tryz.zeroValue242
 t53:=Tryz.underlying87
 a53:=Tryz.isAgg87
 z53:=Tryz.sizeOf87
 v53:=Tryz.zeroValue87
 t131:=Tryz.underlying74
 a131:=Tryz.isAgg74
 z131:=Tryz.sizeOf74
 v131:=Tryz.zeroValue74
 t182:=Tryz.underlying252
 a182:=Tryz.isAgg252
 z182:=Tryz.sizeOf252
 v182:=Tryz.zeroValue252
 t183:=Tryz.underlying253
 a183:=Tryz.isAgg253
 z183:=Tryz.sizeOf253
 v183:=Tryz.zeroValue253
 t218:=Tryz.underlying274
 a218:=Tryz.isAgg274
 z218:=Tryz.sizeOf274
 v218:=Tryz.zeroValue274
 t222:=Tryz.underlying277
 a222:=Tryz.isAgg277
 z222:=Tryz.sizeOf277
 v222:=Tryz.zeroValue277
 t228:=Tryz.underlying284
 a228:=Tryz.isAgg284
 z228:=Tryz.sizeOf284
 v228:=Tryz.zeroValue284
 t229:=Tryz.underlying144
 a229:=Tryz.isAgg144
 z229:=Tryz.sizeOf144
 v229:=Tryz.zeroValue144 }
open Go.Sort Go.RowKit in
theorem Tryz.slices_Sort_int (blk off cap:Nat) (zs:List Int) (w:World) (hH:Holds (Value.int .i64) w blk off zs.toArray) (hblk:blk<w.heap.size) (hsz:zs.length<4611686018427387904) :
  Calls Tryz.prog 120 #[.slice (some ⟨blk,off,none⟩) zs.length cap] w fun e w' =>
   e=.returned (.tuple #[])∧∃ n os,w'=grow (putRow (Value.int .i64) (Sort.ahead w n) blk off (zs.mergeSort fun x y=>decide (x≤y)).toArray) os:=Any.slices_Sort_int Tryz.lays189 blk off cap zs w hH hblk hsz
def Tryz.laysNm220_ren:Go.Shelf.Ren:=⟨fun|20=>121|n=>n,fun|22=>22|3=>3|4=>4|0=>0|n=>n,fun|n=>n⟩
theorem Tryz.laysNm220:Go.Proofs.Lays2.n20 Tryz.prog Tryz.laysNm220_ren:={
 mixed:=by kernel_rfl
 f20:=Tryz.func121.trans (congrArg some (by kernel_rfl))
 t0:=Tryz.underlying0
 a0:=Tryz.isAgg0
 z0:=Tryz.sizeOf0
 v0:=Tryz.zeroValue0
 t3:=Tryz.underlying3
 a3:=Tryz.isAgg3
 z3:=Tryz.sizeOf3
 v3:=Tryz.zeroValue3
 t4:=Tryz.underlying4
 a4:=Tryz.isAgg4
 z4:=Tryz.sizeOf4
 v4:=Tryz.zeroValue4
 t22:=Tryz.underlying22
 a22:=Tryz.isAgg22
 z22:=Tryz.sizeOf22
 v22:=Tryz.zeroValue22
 i3:=by kernel_rfl }
open Go.RowKit Go.Lib Go.Sort in
theorem Tryz.slices_Compact_int (blk off cap:Nat) (zs:List Int) (w:World) (hH:Holds (Value.int .i64) w blk off zs.toArray) (hsz:zs.length≤9223372036854775807) (hcap:zs.length≤cap) :
  Calls Tryz.prog 121 #[.slice (some ⟨blk,off,none⟩) zs.length cap] w fun e w'=>e=.returned (.slice (some ⟨blk,off,none⟩) (Lib.compact zs).length cap)∧∃ q,w'=putRow (Value.int .i64) (Sort.ahead w q) blk off (Lib.compact zs++List.replicate (zs.length-(Lib.compact zs).length) 0).toArray:=Any.slices_Compact_int Tryz.laysNm220 blk off cap zs w hH hsz hcap
open Go.RowKit Go.Lib Go.Sort in
theorem Tryz.slices_Compact_int_empty (a:Option Addr) (cap:Nat) (w:World) :
  Calls Tryz.prog 121 #[.slice a 0 cap] w fun e w'=>e=.returned (.slice a 0 cap)∧w'=w:=Any.slices_Compact_int_empty Tryz.laysNm220 a cap w
open Go.RowKit Go.Sort in
theorem Tryz.slices_Sort_int_none (p:Option Addr) (cap:Nat) (w:World) :
  Calls Tryz.prog 120 #[.slice p 0 cap] w fun e w'=>e=.returned (.tuple #[])∧w'=w:=Any.slices_Sort_int_none Tryz.lays189 p cap w
end Go.Proofs
/- CO: what the kit tells of slices.Sort and slices.Compact, as contracts of calls that are given a block. -/
namespace Go.Co
open Go.Am Go.Proofs Go.RowKit
def iv (zs:List Int):List AV:=zs.map (AV.int .i64)
def ints:List AV→Option (List Int)
 | []=>some []
 | .int .i64 n::xs=>match ints xs with
  | some ns=>some (n::ns)
  | none=>none
 | _=>none
theorem ints_iv:∀ zs,ints (iv zs)=some zs
 | []=>rfl
 | z::zs=>by
  have:=ints_iv zs
  unfold iv at this ⊢
  simp only[List.map_cons,ints,this]
theorem iv_of_ints:∀ {xs:List AV} {zs:List Int},ints xs=some zs→xs=iv zs
 | [],zs,h=>by simp[ints] at h;subst h;rfl
 | x::xs,zs,h=>by
  unfold ints at h
  split at h
  ·rename_i he;cases he
  ·rename_i n ys he
   cases he
   split at h
   ·rename_i ns hn
    cases h
    rw[iv_of_ints hn]
    rfl
   ·cases h
  ·cases h
theorem iv_len (zs:List Int):(iv zs).length=zs.length:=by simp[iv]
def insI (n:Int):List Int→List Int
 | []=>[n]
 | m::l=>if n≤m then n::m::l else m::insI n l
def isort:List Int→List Int
 | []=>[]
 | n::l=>insI n (isort l)
theorem insI_perm (n:Int):∀ l,(insI n l).Perm (n::l)
 | []=>List.Perm.refl _
 | m::l=>by
  unfold insI
  split
  ·exact List.Perm.refl _
  ·exact ((insI_perm n l).cons m).trans (List.Perm.swap n m l)
theorem isort_perm:∀ l,(isort l).Perm l
 | []=>List.Perm.refl _
 | n::l=>(insI_perm n (isort l)).trans ((isort_perm l).cons n)
theorem insI_sorted (n:Int):∀ l:List Int,l.Pairwise (·≤·)→(insI n l).Pairwise (·≤·)
 | [],_=>by simp[insI]
 | m::l,h=>by
  unfold insI
  split
  ·rename_i hnm
   refine List.Pairwise.cons (fun a ha=>?_) h
   rcases List.mem_cons.1 ha with rfl|ha
   ·exact hnm
   ·exact Int.le_trans hnm (List.rel_of_pairwise_cons h ha)
  ·rename_i hnm
   refine List.Pairwise.cons (fun a ha=>?_) (insI_sorted n l (List.Pairwise.of_cons h))
   have:=(insI_perm n l).mem_iff.1 ha
   rcases List.mem_cons.1 this with rfl|ha
   ·omega
   ·exact List.rel_of_pairwise_cons h ha
theorem isort_sorted:∀ l:List Int,(isort l).Pairwise (·≤·)
 | []=>List.Pairwise.nil
 | n::l=>insI_sorted n _ (isort_sorted l)
theorem isort_len (l:List Int):(isort l).length=l.length:=(isort_perm l).length_eq
theorem isort_merge (l:List Int):l.mergeSort (fun x y=>decide (x≤y))=isort l:=by
 have h:=List.pairwise_mergeSort (le:=fun (x y:Int)=>decide (x≤y)) (fun a b c h1 h2=>by simp at *;omega) (fun a b=>by simp;omega) l
 refine List.Perm.eq_of_pairwise (le:=(·≤·)) (fun a b _ _ h1 h2=>Int.le_antisymm h1 h2) (h.imp fun h=>by simpa using h) (isort_sorted l) ((List.mergeSort_perm l _).trans (isort_perm l).symm)
def sortF:GSp:=fun args h=>match args,h with
 | [.own 0 0 0 n],[(0,k)]=>if k.esz=1∧k.cs.length=n∧n≤1152921504606846976 then (ints k.cs).map fun zs=>(.tup [],[(0,⟨iv (isort zs),false,1⟩)]) else none
 | _,_=>none
theorem holds_of {w0:Base} {I:Nat→Prop} {w:World} {M:Option Am.Mode} {r σ:Nat} {k:Blk} {zs:List Int} (he:k.esz=1) (hz:k.cs=iv zs) (h:BlkOk w0 I w M (some (r,σ)) k) :
  Go.Sort.Holds (Value.int .i64) w r 0 zs.toArray∧r<w.heap.size∧∃ arr ty,w.heap[r]? = some (.cells arr ty (0,0))∧arr.size=σ∧zs.length≤σ:=by
 have hlt:=h.lt
 unfold BlkOk at h
 rw[if_neg (by rw[he];decide)] at h
 obtain⟨_,_,_,h4,arr,ty,h5,h6,h7⟩:=h
 have hlen:zs.length≤σ:=by rw[hz,iv_len] at h4;exact h4
 refine⟨fun j hj=>?_,hlt,arr,ty,h5,h6,hlen⟩
 have hj':j<zs.length:=by simpa using hj
 rw[hz] at h7
 obtain⟨v,hv,hr⟩:=h7.get j (.int .i64 zs[j]) (by simp[iv,List.getElem?_eq_getElem hj'])
 simp only[VR] at hr
 subst hr
 rw[iv_len] at hv
 rw[List.getElem?_take,if_pos hj'] at hv
 constructor
 ·simp only[World.cell?,h5,Nat.zero_add]
  rw[Array.getElem?_toList] at hv
  rw[hv]
  simp[getElem!_pos,hj']
 ·simp[World.frozen?,h5]
theorem heap_put {w:World} {r:Nat} {arr:Array Value} {ty:Nat} {fr:Nat×Nat} (h:w.heap[r]? = some (.cells arr ty fr)) (ds:Array Int) (n:Nat) :
  (Go.Sort.putRow (Value.int .i64) (Go.Sort.ahead w n) r 0 ds).heap[r]? = some (.cells (Go.Sort.putCells (Value.int .i64) 0 ds arr) ty fr):=by
 simp[Go.Sort.putRow,Go.Sort.mapBlock,Go.Sort.ahead,Array.getElem?_modify,h,Go.Sort.onCells]
theorem heap_put_ne {w:World} {r j:Nat} (hj:j≠r) (ds:Array Int) (n:Nat):(Go.Sort.putRow (Value.int .i64) (Go.Sort.ahead w n) r 0 ds).heap[j]? = w.heap[j]? := by
 simp[Go.Sort.putRow,Go.Sort.mapBlock,Go.Sort.ahead,Array.getElem?_modify,Ne.symm hj]
theorem putCells_take (ds:List Int) (arr:Array Value) (h:ds.length≤arr.size):(Go.Sort.putCells (Value.int .i64) 0 ds.toArray arr).toList.take ds.length=ds.map (Value.int .i64):=by
 apply List.ext_getElem?
 intro i
 rw[List.getElem?_take]
 by_cases hi:i<ds.length
 ·rw[if_pos hi,Array.getElem?_toList]
  simp only[Go.Sort.putCells,Array.getElem?_mapIdx,Nat.zero_le,true_and,Nat.zero_add,List.size_toArray,Nat.sub_zero]
  rw[Array.getElem?_eq_getElem (by omega)]
  simp[hi]
 ·rw[if_neg hi]
  simp[hi]
theorem putCells_size (ds:Array Int) (arr:Array Value):(Go.Sort.putCells (Value.int .i64) 0 ds arr).size=arr.size:=by simp[Go.Sort.putCells]
theorem VRs_ints {I:Nat→Prop} {w:World} {M:Option Am.Mode}:∀ zs:List Int,VRs I w M (iv zs) (zs.map (Value.int .i64))
 | []=>by simp[iv,VRs]
 | z::zs=>by
  have:=VRs_ints (I:=I) (w:=w) (M:=M) zs
  unfold iv at this ⊢
  simp only[List.map_cons,VRs,VR,true_and]
  exact this
theorem gdone_ints {I:Nat→Prop} {w w':World} {ρ:Nat→Am.Place} {k:Blk} {r σ:Nat} {zs ds:List Int} {v:Value} {x:AV} (hρ:ρ 0=some (r,σ)) (hz:k.cs=iv zs) (he:k.esz=1) (hg:Gate (gbase w [(0,k)] ρ) I w [(0,k)] ρ) (hI:∀ b,I b→b<w.heap.size)
  (hl:ds.length≤zs.length) (hos:w'.os=w.os) (htp:w'.tape=w.tape) (hou:w'.output=w.output) (hsz:w.heap.size≤w'.heap.size) (hoth:∀ j,j<w.heap.size→j≠r→w'.heap[j]? = w.heap[j]?)
  (hc:∃ n,w'.heap[r]? = (Go.Sort.putRow (Value.int .i64) (Go.Sort.ahead w n) r 0 ds.toArray).heap[r]?) (hv:VR I w' (modeOf (gst [(0,⟨iv ds,false,1⟩)]) ρ) x v):GDone I w [(0,k)] ρ x [(0,⟨iv ds,false,1⟩)] (.returned v) w':=by
 have hk:=hg.ok 0 k (by simp[hlook])
 have hok:=hk.2
 rw[hρ] at hok
 obtain⟨_,hlt,arr,ty,h5,h6,h7⟩:=holds_of he hz hok
 refine⟨v,rfl,I,ρ,⟨hos,htp,hou,hsz,fun j hj=>hoth j ?_ ?_⟩,fun _ h=>h,fun _ h=>.inl h,fun b hb=>Nat.lt_of_lt_of_le (hI b hb) hsz,fun _ _ _ _ _=>rfl,⟨fun b kb hb=>?_,fun b b' k1 k2 r1 s1 s2 hb hb'=>?_⟩,hv⟩
 ·exact Nat.lt_of_not_le fun h=>hj (.inl h)
 ·exact fun e=>hj (.inr ⟨0,σ,⟨k,by simp[hlook]⟩,by rw[e];exact hρ⟩)
 ·simp only[hlook] at hb
  split at hb
  ·rename_i e
   subst e
   cases hb
   refine⟨rfl, ?_⟩
   rw[hρ]
   unfold BlkOk
   rw[if_neg (show ¬ ((1:Nat)=mapTag) by decide)]
   obtain⟨n,hc⟩:=hc
   rw[heap_put h5] at hc
   refine⟨hok.first.1,⟨fun e=>(by cases e),.inl (show (1:Nat)<4096 by decide)⟩,fun _=>hok.first.2.2 hk.1,(by rw[iv_len];omega),_,ty,hc,(by rw[putCells_size];exact h6), ?_⟩
   show VRs I w' _ (iv ds) _
   rw[iv_len,putCells_take _ _ (by omega)]
   exact VRs_ints ds
  ·cases hb
 ·simp only[hlook] at hb hb'
  split at hb
  ·split at hb'
   ·intro _ _;omega
   ·cases hb'
  ·cases hb
theorem c_Sort:Contract Tryz.prog (gBase+120) (gspec sortF):=by
 refine Contract.of_gate ?_
 intro I w args vs r h h' ρ hsp hf hf' hvs h2 hgate hI hTab
 have hs:=gspec_some hf hf' hsp
 unfold sortF at hs
 split at hs
 ·rename_i n k
  split at hs
  ·rename_i hc
   obtain⟨he,hn,hbig⟩:=hc
   rw[Option.map_eq_some_iff] at hs
   obtain⟨zs,hz,hq⟩:=hs
   simp only[Prod.mk.injEq] at hq
   obtain⟨rfl,rfl⟩:=hq
   have hcs:=iv_of_ints hz
   match vs,hvs with
   | [v],hvs =>
    simp only[VRs,and_true] at hvs
    refine⟨fun w=>enters_of Tryz.func120 rfl (by decide) _ w, ?_⟩
    simp only[VR,modeOf] at hvs
    have hA:aliveA (gst [(0,k)]) ρ 0 0=some (ρ 0,k.esz % 4096):=by simp[aliveA,gst,hlook]
    have hx:=hvs.2.2 _ hA
    simp only[] at hx
    have hlen:zs.length=n:=by rw[← hn,hcs,iv_len]
    cases hρ:ρ 0 with
    | none =>
     rw[hρ] at hx
     obtain⟨rfl,hn0,_⟩:=hx
     have hz0:zs=[]:=List.length_eq_zero_iff.1 (by omega)
     refine Calls.mono (Tryz.slices_Sort_int_none none 0 w) ?_
     rintro e w' ⟨rfl,rfl⟩
     subst hz0
     refine⟨_,rfl,I,ρ,Base.upto.refl _,fun _ h=>h,fun _ h=>.inl h,hI,fun _ _ _ _ _=>rfl,⟨fun b kb hb=>?_,fun b b' k1 k2 r1 s1 s2 hb hb' hp=>?_⟩, ?_⟩
     ·simp only[hlook] at hb
      split at hb
      ·rename_i e;subst e;cases hb
       refine⟨rfl, ?_⟩
       rw[hρ]
       simp[BlkOk,BlkC,BlkM,iv,isort]
      ·cases hb
     ·simp only[hlook] at hb
      split at hb
      ·rename_i e;subst e;rw[hρ] at hp;cases hp
      ·cases hb
     ·simp only[VR];exact⟨[],rfl,by simp[VRs]⟩
    | some p =>
     obtain⟨q,σ⟩:=p
     rw[hρ] at hx
     obtain⟨a,cap,rfl,hcap,hmax,hx⟩:=hx
     have ha:a=some ⟨q,0,none⟩:=by
      rcases hx with⟨_,h⟩|⟨h,_⟩
      ·exact absurd rfl h
      ·exact h
     subst ha
     have hok:=(hgate.ok 0 k (by simp[hlook])).2
     rw[hρ] at hok
     obtain⟨hH,hlt,_⟩:=holds_of he hcs hok
     rw[← hlen]
     refine Calls.mono (Tryz.slices_Sort_int q 0 cap zs w hH hlt (by omega)) ?_
     rintro e w' ⟨rfl,m,os,rfl⟩
     rw[isort_merge]
     have hsize:(Go.Sort.putRow (Value.int .i64) (Go.Sort.ahead w m) q 0 (isort zs).toArray).heap.size=w.heap.size:=by simp[Go.Sort.putRow,Go.Sort.mapBlock,Go.Sort.ahead]
     have hgrow:∀ j,j<w.heap.size→(Go.Sort.grow (Go.Sort.putRow (Value.int .i64) (Go.Sort.ahead w m) q 0 (isort zs).toArray) os).heap[j]? = (Go.Sort.putRow (Value.int .i64) (Go.Sort.ahead w m) q 0 (isort zs).toArray).heap[j]? := by
      intro j hj
      simp only[Go.Sort.grow]
      rw[Array.getElem?_append_left (by rw[hsize];exact hj)]
     refine gdone_ints hρ hcs he hgate hI (by rw[isort_len];exact Nat.le_refl _) rfl rfl rfl (by simp only[Go.Sort.grow,Array.size_append,hsize];omega) (fun j hj hne=>?_) ⟨m,hgrow q hlt⟩ ?_
     ·rw[hgrow j hj,heap_put_ne hne]
     ·simp only[VR];exact⟨[],rfl,by simp[VRs]⟩
   | [],hvs=>simp[VRs] at hvs
   | _::_::_,hvs=>simp[VRs] at hvs
  ·cases hs
 ·cases hs
def compF:GSp:=fun args h=>match args,h with
 | [.own 0 0 0 n],[(0,k)]=>if k.esz=1∧k.cs.length=n∧n≤1152921504606846976 then (ints k.cs).map fun zs =>
   (.own 0 0 0 (Go.Lib.compact zs).length,[(0,⟨iv (Go.Lib.compact zs++List.replicate (zs.length-(Go.Lib.compact zs).length) 0),false,1⟩)]) else none
 | _,_=>none
theorem compact_le (zs:List Int):(Go.Lib.compact zs).length≤zs.length:=by
 unfold Go.Lib.compact Go.Lib.compactUpTo
 rw[List.length_map]
 refine Nat.le_trans (List.length_filter_le _ _) ?_
 simp
theorem c_Compact:Contract Tryz.prog (gBase+121) (gspec compF):=by
 refine Contract.of_gate ?_
 intro I w args vs r h h' ρ hsp hf hf' hvs h2 hgate hI hTab
 have hs:=gspec_some hf hf' hsp
 unfold compF at hs
 split at hs
 ·rename_i n k
  split at hs
  ·rename_i hc
   obtain⟨he,hn,hbig⟩:=hc
   rw[Option.map_eq_some_iff] at hs
   obtain⟨zs,hz,hq⟩:=hs
   simp only[Prod.mk.injEq] at hq
   obtain⟨rfl,rfl⟩:=hq
   have hcs:=iv_of_ints hz
   match vs,hvs with
   | [v],hvs =>
    simp only[VRs,and_true] at hvs
    refine⟨fun w=>enters_of Tryz.func121 rfl (by decide) _ w, ?_⟩
    simp only[VR,modeOf] at hvs
    have hA:aliveA (gst [(0,k)]) ρ 0 0=some (ρ 0,k.esz % 4096):=by simp[aliveA,gst,hlook]
    have hx:=hvs.2.2 _ hA
    simp only[] at hx
    have hlen:zs.length=n:=by rw[← hn,hcs,iv_len]
    cases hρ:ρ 0 with
    | none =>
     rw[hρ] at hx
     obtain⟨rfl,hn0,_⟩:=hx
     have hz0:zs=[]:=List.length_eq_zero_iff.1 (by omega)
     subst hz0
     subst hn0
     refine Calls.mono (Tryz.slices_Compact_int_empty none 0 w) ?_
     rintro e w' ⟨rfl,rfl⟩
     refine⟨_,rfl,I,ρ,Base.upto.refl _,fun _ h=>h,fun _ h=>.inl h,hI,fun _ _ _ _ _=>rfl,⟨fun b kb hb=>?_,fun b b' k1 k2 r1 s1 s2 hb hb' hp=>?_⟩, ?_⟩
     ·simp only[hlook] at hb
      split at hb
      ·rename_i e;subst e;cases hb
       refine⟨rfl, ?_⟩
       rw[hρ]
       simp[BlkOk,BlkC,BlkM,iv,Go.Lib.compact,Go.Lib.compactUpTo]
      ·cases hb
     ·simp only[hlook] at hb
      split at hb
      ·rename_i e;subst e;rw[hρ] at hp;cases hp
      ·cases hb
     ·simp only[VR,modeOf]
      refine⟨⟨_,_,_,rfl⟩,Nat.le_refl _,fun L hL=>?_⟩
      simp only[aliveA,gst,hlook,if_true,Option.map_some,Option.some.injEq] at hL
      subst hL
      rw[hρ]
      refine⟨?_, ?_⟩
      ·simp[Go.Lib.compact,Go.Lib.compactUpTo]
      ·simp[Go.Lib.compact,Go.Lib.compactUpTo]
    | some p =>
     obtain⟨q,σ⟩:=p
     rw[hρ] at hx
     obtain⟨a,cap,rfl,hcap,hmax,hx⟩:=hx
     have ha:a=some ⟨q,0,none⟩∧cap*(k.esz % 4096)=σ:=by
      rcases hx with⟨_,h⟩|⟨h,h'⟩
      ·exact absurd rfl h
      ·exact⟨h,h' trivial⟩
     obtain⟨rfl,hcs1⟩:=ha
     have hok:=(hgate.ok 0 k (by simp[hlook])).2
     rw[hρ] at hok
     obtain⟨hH,hlt,_⟩:=holds_of he hcs hok
     rw[← hlen]
     refine Calls.mono (Tryz.slices_Compact_int q 0 cap zs w hH (by omega) (by omega)) ?_
     rintro e w' ⟨rfl,m,rfl⟩
     have hle:=compact_le zs
     refine gdone_ints hρ hcs he hgate hI (by simp;omega) rfl rfl rfl (by simp[Go.Sort.putRow,Go.Sort.mapBlock,Go.Sort.ahead]) (fun j hj hne=>heap_put_ne hne _ _) ⟨m,rfl⟩ ?_
     simp only[VR,modeOf]
     refine⟨⟨_,_,_,rfl⟩,Nat.le_refl _,fun L hL=>?_⟩
     simp only[aliveA,gst,hlook,if_true,Option.map_some,Option.some.injEq] at hL
     subst hL
     rw[hρ]
     exact⟨_,cap,rfl,by omega,hmax,.inr ⟨rfl,fun _=>by rw[he] at hcs1;exact hcs1⟩⟩
   | [],hvs=>simp[VRs] at hvs
   | _::_::_,hvs=>simp[VRs] at hvs
  ·cases hs
 ·cases hs
end Go.Co
