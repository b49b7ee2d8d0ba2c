/- CO: texts of this claim, one behind the other. -/
import Derived.Test.YtlbfmeijjgphfaaGreatDoorCz3
import Derived.Test.YtlbfmeijjgphfaaGreatDoorCz1
import Derived.Test.YtlbfmeijjgphfaaGreatDoorCz4
set_option linter.unusedVariables false
set_option linter.unusedSimpArgs false
/- CO: the pieces of a tree within a box. -/
set_option maxHeartbeats 16000000
set_option maxRecDepth 100000
namespace Go.Co
open Go.Am Go.Proofs
def c182_29:ACode:=.seq (.ops [⟨some 27,.bin .lss (.t 26) (.t 25),none,[]⟩] [5,6,24,25,26,27]) (.seq (.cond (.t 27) .skip (.exit 0)) (.seq (.block 1 (.seq (.ops [⟨some 28,.mv (.t 26),none,[]⟩,⟨some 29,.ias (.t 24) (.t 26) 1,none,[]⟩,⟨some 30,.load 1 false (.t 29),none,[]⟩,⟨some 7,.mv (.t 28),none,[]⟩,⟨some 8,.mv (.t 30),none,[]⟩] [5,6,7,8,24,25,26]) (.seq (.ops [⟨some 32,.mv (.t 8),none,[]⟩,⟨some 33,.call 64 [.t 32],none,[]⟩,⟨some 31,.mv (.t 33),none,[]⟩,⟨some 34,.ext (.t 31) 0,none,[]⟩,⟨some 35,.ext (.t 31) 1,none,[]⟩,⟨some 9,.alloc [.bool false,.int .i64 0,.int .i64 0,.int .i64 0,.int .i64 0,.int .i64 0],none,[]⟩,⟨none,.store (.t 9) 6 (.t 34),none,[9]⟩,⟨some 10,.mv (.t 35),none,[]⟩] [5,6,7,9,24,25,26]) (.block 2 (.seq (.ops [⟨some 37,.fad (.t 9) 0,none,[9]⟩,⟨some 38,.load 1 false (.t 37),none,[9]⟩,⟨some 39,.un .not (.t 38),none,[]⟩,⟨some 36,.mv (.t 39),none,[]⟩] [5,6,7,9,24,25,26,36]) (.cond (.t 36) (.ops [⟨some 41,.mv (.t 5),none,[]⟩,⟨some 42,.fad (.t 9) 4,none,[9]⟩,⟨some 43,.load 1 false (.t 42),none,[9]⟩,⟨some 44,.mv (.t 5),none,[]⟩,⟨some 45,.fad (.t 9) 5,none,[9]⟩,⟨some 46,.load 1 false (.t 45),none,[9]⟩,⟨some 47,.mv (.t 5),none,[]⟩,⟨some 48,.mv (.t 7),none,[]⟩,⟨some 49,.ias (.t 47) (.t 48) 10,none,[5]⟩,⟨some 50,.load 10 true (.t 49),none,[5]⟩,⟨some 51,.fad (.t 9) 2,none,[9]⟩,⟨some 52,.load 1 false (.t 51),none,[9]⟩,⟨some 53,.fad (.t 9) 3,none,[9]⟩,⟨some 54,.load 1 false (.t 53),none,[9]⟩,⟨some 55,.call 68 [.t 50,.t 52,.t 54],none,[]⟩,⟨some 40,.mv (.t 55),none,[]⟩,⟨some 56,.ext (.t 40) 0,none,[]⟩,⟨some 57,.ext (.t 40) 1,none,[]⟩,⟨some 58,.ias (.t 41) (.t 43) 10,none,[5]⟩,⟨none,.store (.t 58) 10 (.t 56),none,[5]⟩,⟨some 59,.ias (.t 44) (.t 46) 10,none,[5]⟩,⟨none,.store (.t 59) 10 (.t 57),none,[5]⟩] [5,6,24,25,26]) (.seq (.ops [⟨some 61,.mv (.t 5),none,[]⟩,⟨some 62,.mv (.t 7),none,[]⟩,⟨some 63,.ias (.t 61) (.t 62) 10,none,[5]⟩,⟨some 64,.load 10 true (.t 63),none,[5]⟩,⟨some 65,.call 52 [.t 64],none,[]⟩,⟨some 66,.un .not (.t 65),none,[]⟩,⟨some 60,.mv (.t 66),none,[]⟩] [5,6,7,9,24,25,26,60]) (.cond (.t 60) (.ops [⟨some 67,.mv (.t 6),none,[]⟩,⟨some 68,.mv (.t 5),none,[]⟩,⟨some 69,.mv (.t 7),none,[]⟩,⟨some 70,.ias (.t 68) (.t 69) 10,none,[5]⟩,⟨some 71,.load 10 true (.t 70),none,[5]⟩,⟨some 72,.fad (.t 9) 1,none,[9]⟩,⟨some 73,.load 1 false (.t 72),none,[9]⟩,⟨some 74,.build [.int .i64 0,.int .i64 0,.int .i64 0,.int .i64 0,.int .i64 0,.int .i64 0,.int .i64 0,.int .i64 0,.int .i64 0,.int .i64 0,.int .i64 0] [(0,10,.t 71),(10,1,.t 73)],none,[]⟩,⟨some 75,.mkrow 75 1 11 [.int .i64 0,.int .i64 0,.int .i64 0,.int .i64 0,.int .i64 0,.int .i64 0,.int .i64 0,.int .i64 0,.int .i64 0,.int .i64 0,.int .i64 0] [(0,11,.t 74)],none,[]⟩,⟨some 76,.app 6 [6] (.t 67) (.t 75) 11,none,[6,75]⟩,⟨some 6,.mv (.t 76),none,[]⟩] [5,6,24,25,26]) .skip)))))))) (.ops [⟨some 77,.bin .add (.t 26) (.c (.int .i64 1)),none,[]⟩,⟨some 26,.mv (.t 77),none,[]⟩] [5,6,24,25,26])))
theorem r182_29:type_of% (rr c182_29.eq_1):=rr rfl
def c182_41:ACode:=.seq (.ops [⟨some 3,.box (.t 1) 10,none,[]⟩,⟨some 4,.mv (.c (.nils)),none,[]⟩] [0,3]) (.seq (.seq (.ops [⟨some 11,.mv (.t 0),none,[]⟩,⟨some 12,.call 73 [.t 11,.c (.int .i64 4)],none,[]⟩,⟨some 13,.un .not (.t 12),none,[]⟩,⟨some 14,.mv (.t 13),none,[]⟩,⟨some 15,.load 10 true (.t 3),some (14,false),[3]⟩,⟨some 16,.call 52 [.t 15],some (14,false),[]⟩,⟨some 17,.pick (.t 14) (.c (.bool true)) (.t 16),none,[]⟩] [0,3,17]) (.cond (.t 17) (.seq (.ops [⟨some 4,.mv (.c (.nils)),none,[]⟩] [4]) .ret) .skip)) (.seq (.ops [⟨some 18,.mv (.t 0),none,[]⟩,⟨some 19,.len (.t 18),none,[]⟩,⟨some 20,.mks 5 (.t 19) 10 [.int .i64 0,.int .i64 0,.int .i64 0,.int .i64 0,.int .i64 0,.int .i64 0,.int .i64 0,.int .i64 0,.int .i64 0,.int .i64 0],none,[]⟩,⟨some 5,.mv (.t 20),none,[]⟩] [0,3,5]) (.seq (.ops [⟨some 21,.mv (.t 5),none,[]⟩,⟨some 22,.load 10 true (.t 3),none,[3]⟩,⟨some 23,.ias (.t 21) (.c (.int .i64 0)) 10,none,[5]⟩,⟨none,.store (.t 23) 10 (.t 22),none,[5]⟩] [0,5]) (.seq (.ops [⟨some 6,.nil0 6 11,none,[]⟩] [0,5,6]) (.seq (.seq (.ops [⟨some 24,.mv (.t 0),none,[]⟩,⟨some 25,.len (.t 24),none,[]⟩,⟨some 26,.mv (.c (.int .i64 0)),none,[]⟩] [5,6,24,25,26]) (.block 0 (.loop (.keep [5,6,24,25,26] [5,6] c182_29)))) (.seq (.ops [⟨some 78,.mv (.t 6),none,[]⟩,⟨some 4,.mv (.t 78),none,[]⟩] [4]) .ret))))))
theorem r182_41:type_of% (rr c182_41.eq_1):=rr rfl
def a182:AFun:=⟨2,79,c182_41,[.t 4]⟩
attribute [simp] r182_29 r182_41
theorem m182:mFun Tryz.prog Tryz.f182 a182=true:=by decide +kernel
def okS64 (s:Span):Prop:=ok64 s.lo∧ok64 s.hi
def okB (b:Box):Prop:=okS64 b.s0∧okS64 b.s1∧okS64 b.s2∧okS64 b.s3∧okS64 b.s4
theorem okS_of {lo hi:Int} (h:ok64 lo) (h':ok64 hi):okS64 (ofS lo hi):=by
 unfold ofS
 split
 ·unfold okS64 ok64 noneS;simp only;omega
 ·exact⟨h,h'⟩
theorem okS_cut {s:Span} (h:okS64 s) {n:Int} (hn:ok64 n):okS64 (cutS s n).1∧okS64 (cutS s n).2:=by
 unfold cutS
 split
 ·exact⟨okS_of h.1 h.2,by unfold okS64 ok64 noneS;simp only;omega⟩
 ·refine⟨okS_of h.1 hn,okS_of ?_ h.2⟩
  have:=h.1
  have:=h.2
  unfold ok64 at *
  split<;>omega
theorem okB_get {b:Box} (h:okB b) (i:Int):okS64 (b.get i):=by
 obtain⟨h0,h1,h2,h3,h4⟩:=h
 unfold Box.get
 split
 ·exact h0
 ·split
  ·exact h1
  ·split
   ·exact h2
   ·split
    ·exact h3
    ·exact h4
theorem okB_set {b:Box} (h:okB b) (i:Int) {s:Span} (hs:okS64 s):okB (b.set i s):=by
 obtain⟨h0,h1,h2,h3,h4⟩:=h
 unfold Box.set
 split
 ·exact⟨hs,h1,h2,h3,h4⟩
 ·split
  ·exact⟨h0,hs,h2,h3,h4⟩
  ·split
   ·exact⟨h0,h1,hs,h3,h4⟩
   ·split
    ·exact⟨h0,h1,h2,hs,h4⟩
    ·exact⟨h0,h1,h2,h3,hs⟩
theorem okB_cut {b:Box} (h:okB b) (i:Int) {n:Int} (hn:ok64 n):okB (cutB b i n).1∧okB (cutB b i n).2:=by
 unfold cutB
 split
 ·have:=okS_cut (okB_get h i) hn
  exact⟨okB_set h i this.1,okB_set h i this.2⟩
 ·exact⟨h,h⟩
theorem ok64_fits {n:Int} (h:fits n=true):ok64 n:=by have:=of_fits h;unfold ok64;omega
theorem okB_zero:okB zeroB:=by unfold okB okS64 ok64 zeroB;simp only;omega
theorem okB_own {l:List Word} {dim:Int} (hr:RT l dim) {b:Box} (hb:okB b):∀(i j:Nat),i≤l.length→okB (ownF l b i j)
 | 0,j,_=>by
  unfold ownF up
  split
  ·exact hb
  ·exact okB_zero
 | i+1,j,hi=>by
  unfold ownF
  have h0:=fun j=>okB_own hr hb i j (by omega)
  split
  ·exact h0 j
  ·have hc:=okB_cut (h0 i) (ndAt l i).feature (ok64_fits (hr.cutOk (show i<l.length by omega)))
   unfold up
   split
   ·exact hc.2
   ·split
    ·exact hc.1
    ·exact h0 j
theorem cutB_of {b:Box} (h:okB b) (i:Int) {n:Int} (hn:ok64 n):CutB b i n=some (cutB b i n):=by
 unfold CutB
 rw[if_pos ⟨hn,(okB_get h i).2⟩]
theorem RT.four {l:List Word} {dim:Int} (h:RT l dim):RT l 4:=by
 refine⟨h.ok,h.pos,h.le,fun i hi hl=>?_,h.once⟩
 have h1:=h.inner i hi hl
 have h2:=h.feature hi (by rw[ndAt_lt hi];exact hl)
 rw[ndAt_lt hi] at h2
 exact⟨h2.2,h1.2⟩
def ownL (l:List Word) (b:Box) (i:Nat):List Box:=(List.range l.length).map (ownF l b i)
theorem ownL_len (l:List Word) (b:Box) (i:Nat):(ownL l b i).length=l.length:=by simp[ownL]
theorem ownL_get (l:List Word) (b:Box) (i j:Nat) (h:j<(ownL l b i).length):(ownL l b i)[j]=ownF l b i j:=by simp[ownL]
theorem ownL_zero (l:List Word) (b:Box) (h:0<l.length):ownL l b 0=(List.replicate l.length zeroB).set 0 b:=by
 apply List.ext_getElem
 ·simp[ownL]
 ·intro j h1 h2
  rw[ownL_get,List.getElem_set]
  unfold ownF up
  by_cases hj:j=0
  ·subst hj;simp
  ·rw[if_neg hj,if_neg (Ne.symm hj)];simp
theorem ownL_leaf {l:List Word} (b:Box) {i:Nat} (hl:(ndAt l i).leaf=true):ownL l b (i+1)=ownL l b i:=by
 unfold ownL
 congr 1
 funext j
 rw[ownF,hl]
 rfl
theorem ownL_inner {l:List Word} (b:Box) {i:Nat} (hl:(ndAt l i).leaf=false):ownL l b (i+1) =
  ((ownL l b i).set (ndAt l i).left.toNat (cutB (own l b i) (ndAt l i).feature (ndAt l i).cut).1).set (ndAt l i).right.toNat (cutB (own l b i) (ndAt l i).feature (ndAt l i).cut).2:=by
 apply List.ext_getElem
 ·simp[ownL]
 ·intro j h1 h2
  rw[ownL_get,List.getElem_set,List.getElem_set,ownF,hl]
  simp only[Bool.false_eq_true,if_false,up,ownL_get]
  by_cases e1:j=(ndAt l i).right.toNat
  ·rw[if_pos e1,if_pos e1.symm];rfl
  ·rw[if_neg e1,if_neg (Ne.symm e1)]
   by_cases e2:j=(ndAt l i).left.toNat
   ·rw[if_pos e2,if_pos e2.symm];rfl
   ·rw[if_neg e2,if_neg (Ne.symm e2)]
def piecesTo (l:List Word) (b:Box) (i:Nat):List Piece:=(List.range i).filterMap (pieceAt l b)
theorem piecesTo_succ (l:List Word) (b:Box) (i:Nat):piecesTo l b (i+1)=piecesTo l b i++(pieceAt l b i).toList:=by
 unfold piecesTo
 rw[List.range_succ,List.filterMap_append]
 congr 1
theorem piecesTo_len (l:List Word) (b:Box) (i:Nat):(piecesTo l b i).length≤i:=by
 unfold piecesTo
 have:=List.length_filterMap_le (pieceAt l b) (List.range i)
 simpa using this
theorem rd_box (l:List Box) (i:Nat) (h:i<l.length):rd (encL l) (i*10) 10 true=some (Arg.enc l[i]):=rd_row l i h
theorem wr_box (l:List Box) (i:Nat) (h:i<l.length) (b:Box):wr (encL l) (i*10) [.int .i64 b.s0.lo,.int .i64 b.s0.hi,.int .i64 b.s1.lo,.int .i64 b.s1.hi,.int .i64 b.s2.lo,.int .i64 b.s2.hi,.int .i64 b.s3.lo,.int .i64 b.s3.hi,.int .i64 b.s4.lo,.int .i64 b.s4.hi]=encL (l.set i b):=wr_row l i h b
noncomputable def ListC (l:List Word) (b:Box):Option (List Piece):=Part ((∃ d,RT l d)∧okB b) (if b.empty then [] else pieces l b)
theorem runs_List (l:List Word) (b:Box) (c:List Piece) (h:ListC l b=some c):Runs (tbl [(73,sp2 TreeRight),(52,sp1 fun (b:Box)=>some b.empty),(64,sp1 Unpack),(68,sp3 CutB)]) a182 [Arg.enc l,Arg.enc b] (Arg.enc c):=by
 obtain⟨⟨⟨d,hr⟩,hb⟩,rfl⟩:=part_some h
 refine⟨rfl,fun g=>run_def ?_⟩
 unfold a182
 have hT:TreeRight l 4=some true:=part_of hr.four _
 cases he:b.empty
 case true=>simp -implicitDefEqProofs [hT,he,encL_nil]
 have hp:=hr.pos
 have hle:=hr.le
 have b3:l.length≤maxN:=by unfold maxN;omega
 have b4:(l.length:Int)≤1099511627776:=by omega
 have b5:(0:Int)<l.length:=by omega
 have hz:rep l.length [.int .i64 0,.int .i64 0,.int .i64 0,.int .i64 0,.int .i64 0,.int .i64 0,.int .i64 0,.int .i64 0,.int .i64 0,.int .i64 0]=encL (List.replicate l.length zeroB):=rep_enc l.length zeroB
 have hw0:wr (encL (List.replicate l.length zeroB)) 0 [.int .i64 b.s0.lo,.int .i64 b.s0.hi,.int .i64 b.s1.lo,.int .i64 b.s1.hi,.int .i64 b.s2.lo,.int .i64 b.s2.hi,.int .i64 b.s3.lo,.int .i64 b.s3.hi,.int .i64 b.s4.lo,.int .i64 b.s4.hi]=encL (ownL l b 0):=by
  rw[ownL_zero l b (by omega)]
  exact wr_box (List.replicate l.length zeroB) 0 (by simp;omega) b
 have hlen:10≤(encL (List.replicate l.length zeroB)).length:=by rw[encL_length];simp;omega
 have b6:0<l.length:=by omega
 simp -implicitDefEqProofs [hT,he,b3,b4,b6,hp,hz,hw0,hlen,-Go.Am.rep]
 refine run_while (c:=c182_29) (fun n s=>∃(i:Nat) (g:Nat→Nat),i+n=l.length∧s=⟨[(5,.own 5 (g 5) 0 l.length),(6,.own 6 (g 6) 0 (piecesTo l b i).length),(24,.lst l.length (encL l)),(25,.int .i64 l.length),(26,.int .i64 i)],
  [(5,⟨encL (ownL l b i),false,10⟩),(6,⟨encL (piecesTo l b i),false,11⟩)],g⟩) l.length ⟨0,bump 6 (bump 5 (bump 3 g)),by omega,by simp[piecesTo,encL_nil]⟩ ?_
 rintro n s ⟨i,g,hi,rfl⟩
 have w1:IntKind.i64.wrap ((i:Int)+1)=(i:Int)+1:=wrap64 (by omega) (by omega)
 by_cases h1:i<l.length
 case pos =>
  have hU:=unpack_at hr h1
  have hlen:i*10+10≤(encL (ownL l b i)).length:=by rw[encL_length,ownL_len];simp;omega
  have hrow:rd (encL (ownL l b i)) (i*10) 10 true=some (Arg.enc (own l b i)):=by
   rw[rd_box _ _ (by rw[ownL_len];exact h1),ownL_get]
   rfl
  cases hl:(ndAt l i).leaf
  case true =>
   cases hE:(own l b i).empty
   case true =>
    have hp1:piecesTo l b (i+1)=piecesTo l b i:=by rw[piecesTo_succ,pieceAt,hl,hE];simp
    have ho:=ownL_leaf b hl
    simp -implicitDefEqProofs [h1,rd_words,hU,hl,w1,hrow,hE]
    exact⟨n-1,by omega,i+1,by omega,⟨by rw[hp1],by omega⟩,by rw[ho],by rw[hp1]⟩
   case false =>
    have hp1:piecesTo l b (i+1)=piecesTo l b i++[⟨own l b i,(ndAt l i).value⟩]:=by rw[piecesTo_succ,pieceAt,hl,hE];simp
    have ho:=ownL_leaf b hl
    have hpl:=piecesTo_len l b i
    have c1:(piecesTo l b i).length*11≤(encL (piecesTo l b i)).length:=by rw[encL_length];simp
    have c2:(piecesTo l b i).length≤1099511627775:=by omega
    have htk:List.take ((piecesTo l b i).length*11) (encL (piecesTo l b i))=encL (piecesTo l b i):=take_rows _ _ (by simp)
    simp -implicitDefEqProofs [h1,rd_words,hU,hl,w1,hrow,hE,c1,c2,htk]
    exact⟨n-1,by omega,i+1,by omega,⟨by rw[hp1];simp,by omega⟩,by rw[ho],by rw[hp1,encL_append];rfl⟩
  case false =>
   have ha:=hr.at h1 hl
   have f1:0≤(ndAt l i).left:=by omega
   have f2:(ndAt l i).left<l.length:=by omega
   have f3:0≤(ndAt l i).right:=by omega
   have f4:(ndAt l i).right<l.length:=by omega
   have f5:(ndAt l i).left.toNat<l.length:=by omega
   have f6:(ndAt l i).right.toNat<l.length:=by omega
   have hC:=cutB_of (okB_own hr hb i i (by omega)) (ndAt l i).feature (ok64_fits (hr.cutOk h1))
   have hC:CutB (own l b i) (ndAt l i).feature (ndAt l i).cut=some (cutB (own l b i) (ndAt l i).feature (ndAt l i).cut):=hC
   have ho:=ownL_inner b hl
   have hp1:piecesTo l b (i+1)=piecesTo l b i:=by rw[piecesTo_succ,pieceAt,hl];simp
   generalize cutB (own l b i) (ndAt l i).feature (ndAt l i).cut=z at *
   have hwA:=wr_box (ownL l b i) (ndAt l i).left.toNat (by rw[ownL_len];exact f5) z.1
   have hwB:=wr_box ((ownL l b i).set (ndAt l i).left.toNat z.1) (ndAt l i).right.toNat (by rw[List.length_set,ownL_len];exact f6) z.2
   simp -implicitDefEqProofs [h1,rd_words,hU,hl,w1,hrow,hC,f1,f2,f3,f4,hwA,hwB,encL_length,ownL_len]
   exact⟨fun _=>⟨fun _=>⟨n-1,by omega,i+1,by omega,⟨by rw[hp1],by omega⟩,by rw[ho],by rw[hp1]⟩,by omega⟩,by omega⟩
 case neg =>
  have hil:i=l.length:=by omega
  subst hil
  have hpp:piecesTo l b l.length=pieces l b:=rfl
  have c1:(pieces l b).length*11≤(encL (pieces l b)).length:=by rw[encL_length];simp
  have htk:List.take ((pieces l b).length*11) (encL (pieces l b))=encL (pieces l b):=take_rows _ _ (by simp)
  simp -implicitDefEqProofs [h1,hpp,c1,htk]
theorem c_List:Contract Tryz.prog 182 (sp2 ListC) :=
 contract_of_runs mixed (tbl_cons c_tRight (tbl_cons c_bEmpty (tbl_cons c_Unpack (tbl_cons c_bCut tbl_nil)))) Tryz.func182 m182 (sp2_runs runs_List)
end Go.Co
/- CO: bounds. -/
set_option maxHeartbeats 16000000
set_option maxRecDepth 100000
namespace Go.Co
open Go.Am Go.Proofs
def c149_18:ACode:=.seq (.ops [⟨some 29,.bin .lss (.t 28) (.t 27),none,[]⟩] [8,9,26,27,28,29]) (.seq (.cond (.t 29) .skip (.exit 0)) (.seq (.block 1 (.seq (.ops [⟨some 30,.ias (.t 26) (.t 28) 11,none,[]⟩,⟨some 31,.load 11 true (.t 30),none,[]⟩,⟨some 11,.alloc [.int .i64 0,.int .i64 0,.int .i64 0,.int .i64 0,.int .i64 0,.int .i64 0,.int .i64 0,.int .i64 0,.int .i64 0,.int .i64 0,.int .i64 0],none,[]⟩,⟨none,.store (.t 11) 11 (.t 31),none,[11]⟩] [8,9,11,26,27,28]) (.ops [⟨some 32,.mv (.t 8),none,[]⟩,⟨some 33,.fad (.t 11) 10,none,[11]⟩,⟨some 34,.load 1 false (.t 33),none,[11]⟩,⟨some 35,.mnmx false (.t 32) (.t 34),none,[]⟩,⟨some 36,.mv (.t 9),none,[]⟩,⟨some 37,.fad (.t 11) 10,none,[11]⟩,⟨some 38,.load 1 false (.t 37),none,[11]⟩,⟨some 39,.mnmx true (.t 36) (.t 38),none,[]⟩,⟨some 8,.mv (.t 35),none,[]⟩,⟨some 9,.mv (.t 39),none,[]⟩] [8,9,26,27,28]))) (.ops [⟨some 40,.bin .add (.t 28) (.c (.int .i64 1)),none,[]⟩,⟨some 28,.mv (.t 40),none,[]⟩] [8,9,26,27,28])))
theorem r149_18:type_of% (rr c149_18.eq_1):=rr rfl
def c149_29:ACode:=.seq (.ops [⟨some 3,.box (.t 1) 10,none,[]⟩,⟨some 4,.mv (.c (.int .i64 0)),none,[]⟩,⟨some 5,.mv (.c (.int .i64 0)),none,[]⟩,⟨some 6,.mv (.c (.bool false)),none,[]⟩] [0,3]) (.seq (.ops [⟨some 12,.mv (.t 0),none,[]⟩,⟨some 13,.load 10 true (.t 3),none,[3]⟩,⟨some 14,.call 182 [.t 12,.t 13],none,[]⟩,⟨some 7,.mv (.t 14),none,[]⟩] [7]) (.seq (.seq (.ops [⟨some 15,.mv (.t 7),none,[]⟩,⟨some 16,.len (.t 15),none,[]⟩,⟨some 17,.bin .eql (.t 16) (.c (.int .i64 0)),none,[]⟩] [7,17]) (.cond (.t 17) (.seq (.ops [⟨some 4,.mv (.c (.int .i64 0)),none,[]⟩,⟨some 5,.mv (.c (.int .i64 0)),none,[]⟩,⟨some 6,.mv (.c (.bool false)),none,[]⟩] [4,5,6]) .ret) .skip)) (.seq (.ops [⟨some 18,.mv (.t 7),none,[]⟩,⟨some 19,.ias (.t 18) (.c (.int .i64 0)) 11,none,[]⟩,⟨some 20,.fad (.t 19) 10,none,[]⟩,⟨some 21,.load 1 false (.t 20),none,[]⟩,⟨some 22,.mv (.t 7),none,[]⟩,⟨some 23,.ias (.t 22) (.c (.int .i64 0)) 11,none,[]⟩,⟨some 24,.fad (.t 23) 10,none,[]⟩,⟨some 25,.load 1 false (.t 24),none,[]⟩,⟨some 8,.mv (.t 21),none,[]⟩,⟨some 9,.mv (.t 25),none,[]⟩] [7,8,9]) (.seq (.seq (.ops [⟨some 26,.mv (.t 7),none,[]⟩,⟨some 27,.len (.t 26),none,[]⟩,⟨some 28,.mv (.c (.int .i64 0)),none,[]⟩] [8,9,26,27,28]) (.block 0 (.loop (.keep [8,9,26,27,28] [] c149_18)))) (.seq (.ops [⟨some 41,.mv (.t 8),none,[]⟩,⟨some 42,.mv (.t 9),none,[]⟩,⟨some 4,.mv (.t 41),none,[]⟩,⟨some 5,.mv (.t 42),none,[]⟩,⟨some 6,.mv (.c (.bool true)),none,[]⟩] [4,5,6]) .ret)))))
theorem r149_29:type_of% (rr c149_29.eq_1):=rr rfl
def a149:AFun:=⟨2,43,c149_29,[.t 4,.t 5,.t 6]⟩
attribute [simp] r149_18 r149_29
theorem m149:mFun Tryz.prog Tryz.f149 a149=true:=by decide +kernel
def c109_23:ACode:=.seq (.ops [⟨some 45,.bin .lss (.t 44) (.t 43),none,[]⟩] [1,5,9,10,42,43,44,45]) (.seq (.cond (.t 45) .skip (.exit 0)) (.seq (.block 1 (.seq (.ops [⟨some 46,.ias (.t 42) (.t 44) 2,none,[]⟩,⟨some 47,.load 2 true (.t 46),none,[]⟩,⟨some 12,.alloc [.int .i64 0,.nils],none,[]⟩,⟨none,.store (.t 12) 2 (.t 47),none,[12]⟩] [1,5,9,10,12,42,43,44]) (.seq (.seq (.ops [⟨some 48,.fad (.t 12) 0,none,[12]⟩,⟨some 49,.load 1 false (.t 48),none,[12]⟩,⟨some 50,.mv (.t 1),none,[]⟩,⟨some 51,.bin .neq (.t 49) (.t 50),none,[]⟩] [1,5,9,10,12,42,43,44,51]) (.cond (.t 51) (.exit 1) .skip)) (.seq (.ops [⟨some 53,.fad (.t 12) 1,none,[12]⟩,⟨some 54,.load 1 false (.t 53),none,[12]⟩,⟨some 55,.load 10 true (.t 5),none,[5]⟩,⟨some 56,.call 149 [.t 54,.t 55],none,[]⟩,⟨some 52,.mv (.t 56),none,[]⟩,⟨some 57,.ext (.t 52) 0,none,[]⟩,⟨some 58,.ext (.t 52) 1,none,[]⟩,⟨some 59,.ext (.t 52) 2,none,[]⟩,⟨some 13,.mv (.t 57),none,[]⟩,⟨some 14,.mv (.t 58),none,[]⟩,⟨some 15,.mv (.t 59),none,[]⟩] [1,5,9,10,13,14,42,43,44]) (.ops [⟨some 60,.mv (.t 9),none,[]⟩,⟨some 61,.mv (.t 13),none,[]⟩,⟨some 62,.bin .add (.t 60) (.t 61),none,[]⟩,⟨some 63,.mv (.t 10),none,[]⟩,⟨some 64,.mv (.t 14),none,[]⟩,⟨some 65,.bin .add (.t 63) (.t 64),none,[]⟩,⟨some 9,.mv (.t 62),none,[]⟩,⟨some 10,.mv (.t 65),none,[]⟩] [1,5,9,10,42,43,44]))))) (.ops [⟨some 66,.bin .add (.t 44) (.c (.int .i64 1)),none,[]⟩,⟨some 44,.mv (.t 66),none,[]⟩] [1,5,9,10,42,43,44])))
theorem r109_23:type_of% (rr c109_23.eq_1):=rr rfl
def c109_33:ACode:=.seq (.ops [⟨some 3,.box (.t 0) 6,none,[]⟩,⟨some 5,.box (.t 2) 10,none,[]⟩,⟨some 6,.mv (.c (.int .i64 0)),none,[]⟩,⟨some 7,.mv (.c (.int .i64 0)),none,[]⟩,⟨some 8,.mv (.c (.bool false)),none,[]⟩] [1,3,5]) (.seq (.seq (.ops [⟨some 16,.load 6 true (.t 3),none,[3]⟩,⟨some 17,.call 38 [.t 16],none,[]⟩,⟨some 18,.un .not (.t 17),none,[]⟩,⟨some 19,.mv (.t 18),none,[]⟩,⟨some 20,.mv (.t 1),some (19,false),[]⟩,⟨some 21,.bin .lss (.t 20) (.c (.int .i64 0)),some (19,false),[]⟩,⟨some 22,.pick (.t 19) (.c (.bool true)) (.t 21),none,[]⟩,⟨some 23,.mv (.t 22),none,[]⟩,⟨some 24,.mv (.t 1),some (23,false),[]⟩,⟨some 25,.fad (.t 3) 1,some (23,false),[3]⟩,⟨some 26,.load 1 false (.t 25),some (23,false),[3]⟩,⟨some 27,.bin .geq (.t 24) (.t 26),some (23,false),[]⟩,⟨some 28,.pick (.t 23) (.c (.bool true)) (.t 27),none,[]⟩,⟨some 29,.mv (.t 28),none,[]⟩,⟨some 30,.load 10 true (.t 5),some (29,false),[5]⟩,⟨some 31,.call 52 [.t 30],some (29,false),[]⟩,⟨some 32,.pick (.t 29) (.c (.bool true)) (.t 31),none,[]⟩] [1,3,5,32]) (.cond (.t 32) (.seq (.ops [⟨some 6,.mv (.c (.int .i64 0)),none,[]⟩,⟨some 7,.mv (.c (.int .i64 0)),none,[]⟩,⟨some 8,.mv (.c (.bool false)),none,[]⟩] [6,7,8]) .ret) .skip)) (.seq (.ops [⟨some 33,.mv (.t 1),none,[]⟩,⟨some 34,.fad (.t 3) 2,none,[3]⟩,⟨some 35,.iad (.t 34) (.t 33) 1 3,none,[3]⟩,⟨some 36,.load 1 false (.t 35),none,[3]⟩,⟨some 37,.mv (.t 1),none,[]⟩,⟨some 38,.fad (.t 3) 2,none,[3]⟩,⟨some 39,.iad (.t 38) (.t 37) 1 3,none,[3]⟩,⟨some 40,.load 1 false (.t 39),none,[3]⟩,⟨some 9,.mv (.t 36),none,[]⟩,⟨some 10,.mv (.t 40),none,[]⟩] [1,3,5,9,10]) (.seq (.seq (.ops [⟨some 41,.fad (.t 3) 5,none,[3]⟩,⟨some 42,.load 1 false (.t 41),none,[3]⟩,⟨some 43,.len (.t 42),none,[]⟩,⟨some 44,.mv (.c (.int .i64 0)),none,[]⟩] [1,5,9,10,42,43,44]) (.block 0 (.loop (.keep [1,5,9,10,42,43,44] [5] c109_23)))) (.seq (.ops [⟨some 67,.mv (.t 9),none,[]⟩,⟨some 68,.mv (.t 10),none,[]⟩,⟨some 6,.mv (.t 67),none,[]⟩,⟨some 7,.mv (.t 68),none,[]⟩,⟨some 8,.mv (.c (.bool true)),none,[]⟩] [6,7,8]) .ret))))
theorem r109_33:type_of% (rr c109_33.eq_1):=rr rfl
def a109:AFun:=⟨3,69,c109_33,[.t 6,.t 7,.t 8]⟩
attribute [simp] r109_23 r109_33
theorem m109:mFun Tryz.prog Tryz.f109 a109=true:=by decide +kernel
theorem rd_piece (l:List Piece) (i:Nat) (h:i<l.length):rd (encL l) (i*11) 11 true=some (.agg (Row.enc l[i])):=rd_row l i h
theorem rd_piece10 (l:List Piece) (i:Nat) (h:i<l.length):rd (encL l) (i*11+10) 1 false=some (.int .i64 l[i].value):=rd_cell l i 10 h (by decide)
@[simp 5000] theorem rd_biasN (a b:Int) (x:Bias) (y:AV) (k:Nat) (h:k<3):rd [.int .i64 a,.int .i64 b,.int .i64 x.b0,.int .i64 x.b1,.int .i64 x.b2,y] (2+k) 1 false=some (.int .i64 (x.get k)):=by
 have:=rd_bias a b x y k (by omega) (by omega)
 simpa using this
theorem piecesX (l:List Word) (b:Box):ends (if b.empty then [] else pieces l b)=boundT l b:=by
 unfold boundT
 cases b.empty<;>rfl
theorem len_pieces (l:List Word) (b:Box):(if b.empty then [] else pieces l b).length≤l.length:=by
 split
 ·simp
 ·exact piecesTo_len l b l.length
noncomputable def BoundT (l:List Word) (b:Box):Option (Tri Int Int Bool):=Part ((∃ d,RT l d)∧okB b) (boundT l b)
theorem runs_bTree (l:List Word) (b:Box) (c:Tri Int Int Bool) (h:BoundT l b=some c):Runs (tbl [(182,sp2 ListC)]) a149 [Arg.enc l,Arg.enc b] (Arg.enc c):=by
 obtain⟨hh,rfl⟩:=part_some h
 refine⟨rfl,fun g=>run_def ?_⟩
 unfold a149
 have hL:ListC l b=some (if b.empty then [] else pieces l b):=part_of hh _
 have hl:=len_pieces l b
 obtain⟨⟨d,hr⟩,hb⟩:=hh
 have hle:=hr.le
 rw[← piecesX]
 generalize (if b.empty then [] else pieces l b)=ps at *
 have b3:ps.length≤maxN:=by unfold maxN;omega
 cases ps with
 | nil=>simp -implicitDefEqProofs [hL,ends,encL_nil]
 | cons x xs =>
  have hne:¬ ((x::xs).length:Int)=0:=by simp;omega
  have hnn:x::xs≠[]:=by simp
  have r0:rd (encL (x::xs)) 10 1 false=some (.int .i64 x.value):=rd_piece10 (x::xs) 0 (by simp)
  have hpos:0<(x::xs).length:=by simp
  have he:ends (x::xs)=⟨((x::xs).foldl endF (x.value,x.value)).1,((x::xs).foldl endF (x.value,x.value)).2,true⟩:=rfl
  rw[he]
  generalize x::xs=ps at *
  simp -implicitDefEqProofs [hL,b3,hne,r0,hpos]
  refine⟨hnn,fun _=>?_⟩
  refine run_while (c:=c149_18) (fun n s=>∃(i:Nat),i+n=ps.length∧s=⟨[(8,.int .i64 ((ps.take i).foldl endF (x.value,x.value)).1),(9,.int .i64 ((ps.take i).foldl endF (x.value,x.value)).2),(26,.lst ps.length (encL ps)),(27,.int .i64 ps.length),(28,.int .i64 i)],[],s.g⟩) ps.length ⟨0,by omega,by simp⟩ ?_
  rintro n s ⟨i,hi,hs⟩
  rw[hs]
  have w1:IntKind.i64.wrap ((i:Int)+1)=(i:Int)+1:=wrap64 (by omega) (by omega)
  by_cases h1:i<ps.length
  case pos =>
   have hrow:=rd_piece ps i h1
   have hs2:(ps.take (i+1)).foldl endF (x.value,x.value)=endF ((ps.take i).foldl endF (x.value,x.value)) ps[i]:=by
    rw[List.take_succ_eq_append_getElem h1,List.foldl_append]
    rfl
   simp -implicitDefEqProofs [h1,hrow,w1]
   exact⟨n-1,by omega,i+1,by omega,by rw[hs2];rfl,by rw[hs2];rfl,by omega⟩
  case neg =>
   have hil:i=ps.length:=by omega
   subst hil
   simp -implicitDefEqProofs [h1]
theorem c_bTree:Contract Tryz.prog 149 (sp2 BoundT) :=
 contract_of_runs mixed (tbl_cons c_List tbl_nil) Tryz.func149 m149 (sp2_runs runs_bTree)
noncomputable def BoundS (m:Model) (c:Int) (b:Box):Option (Tri Int Int Bool):=Part (RM m∧okB b) (boundM m c b)
theorem runs_bSum (m:Model) (c:Int) (b:Box) (r:Tri Int Int Bool) (h:BoundS m c b=some r):Runs (tbl [(38,sp1 MRight),(52,sp1 fun (b:Box)=>some b.empty),(149,sp2 BoundT)]) a109 [Arg.enc m,Arg.enc c,Arg.enc b] (Arg.enc r):=by
 obtain⟨⟨hr,hb⟩,rfl⟩:=part_some h
 refine⟨rfl,fun g=>run_def ?_⟩
 unfold a109
 have hM:MRight m=some true:=by unfold MRight;rw[if_neg (by have:=hr.dim;omega)];exact part_of hr _
 by_cases h0:c<0
 case pos=>simp -implicitDefEqProofs [hM,h0,boundM]
 by_cases h1:m.classes≤c
 case pos=>simp -implicitDefEqProofs [hM,h0,h1,boundM]
 cases he:b.empty
 case true=>simp -implicitDefEqProofs [hM,h0,h1,he,boundM]
 have hle:=hr.trees
 have b3:m.trees.length≤maxN:=by unfold maxN;omega
 have c0:0≤c:=by omega
 have c3:c<3:=by have:=hr.classes;omega
 have hres:boundM m c b=⟨(boundP m c b).1,(boundP m c b).2,true⟩:=by unfold boundM;rw[if_neg (by simp[he];omega)]
 rw[hres]
 simp -implicitDefEqProofs [hM,h0,h1,he,b3,c0,c3]
 refine run_while (c:=c109_23) (fun n s=>∃(i:Nat) (g:Nat→Nat),i+n=m.trees.length∧s=⟨[(1,.int .i64 c),(5,.ptr 5 (g 5) 0),(9,.int .i64 ((m.trees.take i).foldl (boundF c b) (m.bias.get c,m.bias.get c)).1),(10,.int .i64 ((m.trees.take i).foldl (boundF c b) (m.bias.get c,m.bias.get c)).2),(42,.lst m.trees.length (encL m.trees)),(43,.int .i64 m.trees.length),(44,.int .i64 i)],
  [(5,⟨[.int .i64 b.s0.lo,.int .i64 b.s0.hi,.int .i64 b.s1.lo,.int .i64 b.s1.hi,.int .i64 b.s2.lo,.int .i64 b.s2.hi,.int .i64 b.s3.lo,.int .i64 b.s3.hi,.int .i64 b.s4.lo,.int .i64 b.s4.hi],false,0⟩)],g⟩) m.trees.length ⟨0,bump 5 (bump 3 g),by omega,by simp⟩ ?_
 rintro n s ⟨i,g,hi,rfl⟩
 by_cases h1:i<m.trees.length
 case pos =>
  have w1:IntKind.i64.wrap ((i:Int)+1)=(i:Int)+1:=wrap64 (by omega) (by omega)
  have hrow:=rd_tree m.trees i h1
  have hrt:=hr.rt (List.getElem_mem h1)
  have hV:BoundT m.trees[i].nodes b=some (boundT m.trees[i].nodes b):=part_of ⟨⟨_,hrt⟩,hb⟩ _
  have hbd:=boundF_le (c:=c) he (m.trees.take (i+1)) (m.bias.get c,m.bias.get c) (fun t ht=>⟨_,hr.rt (List.mem_of_mem_take ht)⟩)
  have hb2:=of_fits (Bias.get_fits hr c)
  have hs:(m.trees.take (i+1)).foldl (boundF c b) (m.bias.get c,m.bias.get c)=boundF c b ((m.trees.take i).foldl (boundF c b) (m.bias.get c,m.bias.get c)) m.trees[i]:=by
   rw[List.take_succ_eq_append_getElem h1,List.foldl_append]
   rfl
  have hl:(m.trees.take (i+1)).length≤8:=by simp;omega
  simp only at hbd
  by_cases hc:m.trees[i].cls=c
  case pos =>
   have hs1:((m.trees.take (i+1)).foldl (boundF c b) (m.bias.get c,m.bias.get c)).1=((m.trees.take i).foldl (boundF c b) (m.bias.get c,m.bias.get c)).1+(boundT m.trees[i].nodes b).a:=by rw[hs,boundF,if_pos hc]
   have hs2:((m.trees.take (i+1)).foldl (boundF c b) (m.bias.get c,m.bias.get c)).2=((m.trees.take i).foldl (boundF c b) (m.bias.get c,m.bias.get c)).2+(boundT m.trees[i].nodes b).b:=by rw[hs,boundF,if_pos hc]
   have w2:IntKind.i64.wrap (((m.trees.take i).foldl (boundF c b) (m.bias.get c,m.bias.get c)).1+(boundT m.trees[i].nodes b).a)=((m.trees.take (i+1)).foldl (boundF c b) (m.bias.get c,m.bias.get c)).1:=by rw[← hs1];exact wrap64 (by omega) (by omega)
   have w3:IntKind.i64.wrap (((m.trees.take i).foldl (boundF c b) (m.bias.get c,m.bias.get c)).2+(boundT m.trees[i].nodes b).b)=((m.trees.take (i+1)).foldl (boundF c b) (m.bias.get c,m.bias.get c)).2:=by rw[← hs2];exact wrap64 (by omega) (by omega)
   simp -implicitDefEqProofs [h1,hrow,hc,hV,w1,w2,w3]
   exact⟨n-1,by omega,i+1,by omega,rfl,rfl,by omega⟩
  case neg =>
   have hs2:(m.trees.take (i+1)).foldl (boundF c b) (m.bias.get c,m.bias.get c)=(m.trees.take i).foldl (boundF c b) (m.bias.get c,m.bias.get c):=by rw[hs,boundF,if_neg hc]
   simp -implicitDefEqProofs [h1,hrow,hc,hV,w1]
   exact⟨n-1,by omega,i+1,by omega,by rw[hs2],by rw[hs2],by omega⟩
 case neg =>
  have hil:i=m.trees.length:=by omega
  subst hil
  simp -implicitDefEqProofs [h1,boundP]
theorem c_bSum:Contract Tryz.prog 109 (sp3 BoundS) :=
 contract_of_runs mixed (tbl_cons c_mRight (tbl_cons c_bEmpty (tbl_cons c_bTree tbl_nil))) Tryz.func109 m109 (sp3_runs runs_bSum)
end Go.Co
/- CO: maps of numbers as lists of pairs. -/
namespace Go.Co
open Go.Am
def flatA:List (Int×Int)→List AV
 | []=>[]
 | (k,v)::l=>.int .i64 k::.int .i64 v::flatA l
def getA (n:Int):List (Int×Int)→Int
 | []=>0
 | (k,v)::l=>if n=k then v else getA n l
def setA (n v:Int):List (Int×Int)→List (Int×Int)
 | []=>[(n,v)]
 | (k,u)::l=>if n=k then (k,v)::l else (k,u)::setA n v l
theorem mfind_flat (n:Int):∀(l:List (Int×Int)) (i:Nat),(∃ j v,mfind n (flatA l) i=some (i+j,.int .i64 v)∧getA n l=v∧(∀ u,wr (flatA l) (2*j+1) [.int .i64 u]=flatA (setA n u l)))∨(mfind n (flatA l) i=none∧getA n l=0∧∀ u,flatA l++[.int .i64 n,.int .i64 u]=flatA (setA n u l))
 | [],i=>.inr ⟨rfl,rfl,fun _=>rfl⟩
 | (k,v)::l,i=>by
  unfold flatA mfind getA setA
  by_cases h:n=k
  ·refine .inl ⟨0,v,by simp[h],by simp[h],fun u=>?_⟩
   rw[if_pos h]
   simp[wr,flatA]
  ·rw[if_neg h,if_neg h]
   rcases mfind_flat n l (i+1) with⟨j,w,h1,h2,h3⟩|⟨h1,h2,h3⟩
   ·refine .inl ⟨j+1,w,by rw[h1];congr 2;omega,h2,fun u=>?_⟩
    rw[if_neg h]
    have e2:2*(j+1)+1=(2*j+1)+1+1:=by omega
    unfold wr
    simp only[e2,List.take_succ_cons,List.cons_append,List.length_cons,List.length_nil,Nat.zero_add]
    rw[show 2*j+1+1+1+1=(2*j+1+1)+1+1 by omega,List.drop_succ_cons,List.drop_succ_cons]
    have:=h3 u
    unfold wr at this
    simp only[List.length_cons,List.length_nil,Nat.zero_add] at this
    rw[this]
   ·refine .inr ⟨h1,h2,fun u=>?_⟩
    rw[if_neg h]
    simp only[List.cons_append,h3 u]
@[simp] theorem mget_flat (n:Int) (l:List (Int×Int)):mgetV n (flatA l) (.int .i64 0)=.int .i64 (getA n l):=by
 unfold mgetV
 rcases mfind_flat n l 0 with⟨j,v,h1,h2,_⟩|⟨h1,h2,_⟩
 ·rw[h1,h2]
 ·rw[h1,h2]
@[simp] theorem mput_flat (n v:Int) (l:List (Int×Int)):mputV n (flatA l) (.int .i64 v)=flatA (setA n v l):=by
 unfold mputV
 rcases mfind_flat n l 0 with⟨j,w,h1,_,h3⟩|⟨h1,_,h3⟩
 ·rw[h1]
  simp only[Nat.zero_add]
  exact h3 v
 ·rw[h1]
  exact h3 v
@[simp] theorem isIt_nil:isIt []=false:=rfl
@[simp] theorem isA_nil:isA []=false:=rfl
@[simp] theorem isA_flat (l:List (Int×Int)):isA (flatA l)=false:=by cases l<;>rfl
@[simp] theorem isIt_flat (l:List (Int×Int)):isIt (flatA l)=false:=by
 cases l with
 | nil=>rfl
 | cons p l=>obtain⟨k,v⟩:=p;rfl
def flatB:List Int→List AV
 | []=>[]
 | k::l=>.int .i64 k::.bool true::flatB l
def insB (n:Int) (l:List Int):List Int:=if n∈l then l else l++[n]
@[simp] theorem isIt_flatB (l:List Int):isIt (flatB l)=false:=by cases l<;>rfl
@[simp] theorem isA_flatB (l:List Int):isA (flatB l)=false:=by cases l<;>rfl
@[simp] theorem flatB_len (l:List Int):(flatB l).length=2*l.length:=by
 induction l with
 | nil=>rfl
 | cons k l ih=>simp only[flatB,List.length_cons,ih];omega
theorem flatB_append (l:List Int) (n:Int):flatB (l++[n])=flatB l++[.int .i64 n,.bool true]:=by
 induction l with
 | nil=>rfl
 | cons k l ih=>simp only[List.cons_append,flatB,ih]
theorem mfind_flatB (n:Int):∀(l:List Int) (i:Nat),(n∈l∧∃ j,mfind n (flatB l) i=some (i+j,.bool true)∧wr (flatB l) (2*j+1) [.bool true]=flatB l)∨(n ∉ l∧mfind n (flatB l) i=none)
 | [],i=>.inr ⟨by simp,rfl⟩
 | k::l,i=>by
  unfold flatB mfind
  by_cases h:n=k
  ·refine .inl ⟨by simp[h],0,by simp[h], ?_⟩
   simp[wr]
  ·rw[if_neg h]
   rcases mfind_flatB n l (i+1) with⟨h0,j,h1,h2⟩|⟨h0,h1⟩
   ·refine .inl ⟨by simp[h0],j+1,by rw[h1];congr 2;omega, ?_⟩
    have e2:2*(j+1)+1=(2*j+1)+1+1:=by omega
    unfold wr
    simp only[e2,List.take_succ_cons,List.cons_append,List.length_cons,List.length_nil,Nat.zero_add]
    rw[show 2*j+1+1+1+1=(2*j+1+1)+1+1 by omega,List.drop_succ_cons,List.drop_succ_cons]
    unfold wr at h2
    simp only[List.length_cons,List.length_nil,Nat.zero_add] at h2
    rw[h2]
   ·exact .inr ⟨by simp[h,h0],h1⟩
@[simp] theorem mput_flatB (n:Int) (l:List Int):mputV n (flatB l) (.bool true)=flatB (insB n l):=by
 unfold mputV insB
 rcases mfind_flatB n l 0 with⟨h0,j,h1,h2⟩|⟨h0,h1⟩
 ·rw[h1,if_pos h0]
  simp only[Nat.zero_add]
  exact h2
 ·rw[h1,if_neg h0,flatB_append]
end Go.Co
/- CO: the document's own answers: trees and models. -/
namespace Go.Co
open Go.Am Go.Proofs
end Go.Co
/- CO: the region and the query that numbers make. -/
set_option maxHeartbeats 16000000
set_option maxRecDepth 100000
namespace Go.Co
open Go.Am Go.Proofs
def c30_23:ACode:=.seq (.ops [⟨some 2,.box (.t 0) 6,none,[]⟩,⟨some 4,.alloc [.int .i64 0,.int .i64 0,.int .i64 0,.int .i64 0,.int .i64 0,.int .i64 0,.int .i64 0,.int .i64 0,.int .i64 0,.int .i64 0],none,[]⟩] [1,2,4]) (.seq (.ops [⟨some 5,.alloc [.int .i64 0,.int .i64 0,.int .i64 0,.int .i64 0,.int .i64 0,.int .i64 0,.int .i64 0,.int .i64 0,.int .i64 0,.int .i64 0],none,[]⟩] [1,2,4,5]) (.seq (.seq (.ops [⟨some 8,.fad (.t 2) 0,none,[2]⟩,⟨some 9,.load 1 false (.t 8),none,[2]⟩,⟨some 10,.mv (.c (.int .i64 0)),none,[]⟩] [1,4,5,9,10]) (.block 0 (.loop (.keep [1,4,5,9,10] [4,5] (.seq (.ops [⟨some 11,.bin .lss (.t 10) (.t 9),none,[]⟩] [1,4,5,9,10,11]) (.seq (.cond (.t 11) .skip (.exit 0)) (.seq (.block 1 (.seq (.ops [⟨some 12,.mv (.t 10),none,[]⟩,⟨some 6,.mv (.t 12),none,[]⟩] [1,4,5,6,9,10]) (.seq (.ops [⟨some 13,.mv (.t 1),none,[]⟩,⟨some 14,.mv (.t 6),none,[]⟩,⟨some 15,.bin .mul (.c (.int .i64 2)) (.t 14),none,[]⟩,⟨some 16,.call 27 [.t 13,.t 15],none,[]⟩,⟨some 17,.call 17 [.t 16,.c (.int .i64 (-2)),.c (.int .i64 9)],none,[]⟩,⟨some 7,.mv (.t 17),none,[]⟩] [1,4,5,6,7,9,10]) (.ops [⟨some 18,.mv (.t 6),none,[]⟩,⟨some 19,.mv (.t 7),none,[]⟩,⟨some 20,.mv (.t 7),none,[]⟩,⟨some 21,.mv (.t 1),none,[]⟩,⟨some 22,.mv (.t 6),none,[]⟩,⟨some 23,.bin .mul (.c (.int .i64 2)) (.t 22),none,[]⟩,⟨some 24,.bin .add (.t 23) (.c (.int .i64 1)),none,[]⟩,⟨some 25,.call 27 [.t 21,.t 24],none,[]⟩,⟨some 26,.call 17 [.t 25,.c (.int .i64 0),.c (.int .i64 11)],none,[]⟩,⟨some 27,.bin .add (.t 20) (.t 26),none,[]⟩,⟨some 28,.build [.int .i64 0,.int .i64 0] [(0,1,.t 19),(1,1,.t 27)],none,[]⟩,⟨some 29,.iad (.t 5) (.t 18) 2 5,none,[5]⟩,⟨none,.store (.t 29) 2 (.t 28),none,[5]⟩] [1,4,5,9,10])))) (.ops [⟨some 30,.bin .add (.t 10) (.c (.int .i64 1)),none,[]⟩,⟨some 10,.mv (.t 30),none,[]⟩] [1,4,5,9,10])))))))) (.seq (.ops [⟨some 31,.load 10 true (.t 5),none,[5]⟩,⟨none,.store (.t 4) 10 (.t 31),none,[4]⟩] [4]) .ret)))
theorem r30_23:type_of% (rr c30_23.eq_1):=rr rfl
def a30:AFun:=⟨2,32,c30_23,[.cell 4 10 true]⟩
attribute [simp] r30_23
theorem m30:mFun Tryz.prog Tryz.f30 a30=true:=by decide +kernel
def c12_27:ACode:=.seq (.ops [⟨some 2,.box (.t 0) 8,none,[]⟩,⟨some 3,.box (.t 1) 6,none,[]⟩,⟨some 4,.alloc [.int .i64 0,.int .i64 0,.int .i64 0,.int .i64 0,.int .i64 0,.int .i64 0,.int .i64 0,.int .i64 0,.int .i64 0,.int .i64 0,.int .i64 0,.int .i64 0,.int .i64 0,.int .i64 0,.int .i64 0,.bool false,.int .i64 0],none,[]⟩] [2,3,4]) (.seq (.ops [⟨some 6,.fad (.t 2) 0,none,[2]⟩,⟨some 7,.load 1 false (.t 6),none,[2]⟩,⟨some 8,.call 17 [.t 7,.c (.int .i64 1),.c (.int .i64 3)],none,[]⟩,⟨some 9,.fad (.t 2) 1,none,[2]⟩,⟨some 10,.load 1 false (.t 9),none,[2]⟩,⟨some 11,.fad (.t 3) 1,none,[3]⟩,⟨some 12,.load 1 false (.t 11),none,[3]⟩,⟨some 13,.bin .sub (.t 12) (.c (.int .i64 1)),none,[]⟩,⟨some 14,.call 17 [.t 10,.c (.int .i64 0),.t 13],none,[]⟩,⟨some 15,.load 6 true (.t 3),none,[3]⟩,⟨some 16,.fad (.t 2) 7,none,[2]⟩,⟨some 17,.load 1 false (.t 16),none,[2]⟩,⟨some 18,.call 30 [.t 15,.t 17],none,[]⟩,⟨some 19,.fad (.t 2) 5,none,[2]⟩,⟨some 20,.load 1 false (.t 19),none,[2]⟩,⟨some 21,.call 17 [.t 20,.c (.int .i64 0),.c (.int .i64 65536)],none,[]⟩,⟨some 22,.build [.int .i64 0,.int .i64 0,.int .i64 0,.int .i64 0,.int .i64 0,.int .i64 0,.int .i64 0,.int .i64 0,.int .i64 0,.int .i64 0,.int .i64 0,.int .i64 0,.int .i64 0,.int .i64 0,.int .i64 0,.bool false,.int .i64 0] [(0,1,.t 8),(1,1,.t 14),(2,10,.t 18),(16,1,.t 21)],none,[]⟩,⟨some 5,.alloc [.int .i64 0,.int .i64 0,.int .i64 0,.int .i64 0,.int .i64 0,.int .i64 0,.int .i64 0,.int .i64 0,.int .i64 0,.int .i64 0,.int .i64 0,.int .i64 0,.int .i64 0,.int .i64 0,.int .i64 0,.bool false,.int .i64 0],none,[]⟩,⟨none,.store (.t 5) 17 (.t 22),none,[5]⟩] [2,3,4,5]) (.seq (.seq (.ops [⟨some 23,.fad (.t 5) 0,none,[5]⟩,⟨some 24,.load 1 false (.t 23),none,[5]⟩] [2,3,4,5,24]) (.block 0 (.seq (.ops [⟨some 26,.bin .eql (.t 24) (.c (.int .i64 2)),none,[]⟩,⟨some 25,.mv (.t 26),none,[]⟩] [2,3,4,5,24,25]) (.cond (.t 25) (.seq (.ops [⟨some 27,.fad (.t 3) 1,none,[3]⟩,⟨some 28,.load 1 false (.t 27),none,[3]⟩,⟨some 29,.bin .lss (.t 28) (.c (.int .i64 2)),none,[]⟩] [2,4,5,29]) (.cond (.t 29) (.ops [⟨some 30,.fad (.t 5) 0,none,[5]⟩,⟨none,.store (.t 30) 1 (.c (.int .i64 1)),none,[5]⟩] [2,4,5]) .skip)) (.seq (.ops [⟨some 32,.bin .eql (.t 24) (.c (.int .i64 3)),none,[]⟩,⟨some 31,.mv (.t 32),none,[]⟩] [2,3,4,5,31]) (.cond (.t 31) (.ops [⟨some 33,.fad (.t 2) 4,none,[2]⟩,⟨some 34,.load 1 false (.t 33),none,[2]⟩,⟨some 35,.fad (.t 3) 0,none,[3]⟩,⟨some 36,.load 1 false (.t 35),none,[3]⟩,⟨some 37,.bin .sub (.t 36) (.c (.int .i64 1)),none,[]⟩,⟨some 38,.call 17 [.t 34,.c (.int .i64 0),.t 37],none,[]⟩,⟨some 39,.fad (.t 2) 6,none,[2]⟩,⟨some 40,.load 1 false (.t 39),none,[2]⟩,⟨some 41,.fad (.t 5) 14,none,[5]⟩,⟨none,.store (.t 41) 1 (.t 38),none,[5]⟩,⟨some 42,.fad (.t 5) 15,none,[5]⟩,⟨none,.store (.t 42) 1 (.t 40),none,[5]⟩] [2,4,5]) .skip)))))) (.seq (.seq (.ops [⟨some 43,.fad (.t 5) 0,none,[5]⟩,⟨some 44,.load 1 false (.t 43),none,[5]⟩,⟨some 45,.bin .eql (.t 44) (.c (.int .i64 1)),none,[]⟩] [2,4,5,45]) (.cond (.t 45) (.seq (.ops [⟨some 46,.fad (.t 2) 2,none,[2]⟩,⟨some 47,.load 1 false (.t 46),none,[2]⟩,⟨some 48,.call 17 [.t 47,.c (.int .i64 (-9000)),.c (.int .i64 9000)],none,[]⟩,⟨some 49,.fad (.t 5) 12,none,[5]⟩,⟨none,.store (.t 49) 1 (.t 48),none,[5]⟩] [2,4,5]) (.ops [⟨some 50,.fad (.t 5) 12,none,[5]⟩,⟨some 51,.load 1 false (.t 50),none,[5]⟩,⟨some 52,.fad (.t 2) 3,none,[2]⟩,⟨some 53,.load 1 false (.t 52),none,[2]⟩,⟨some 54,.call 17 [.t 53,.c (.int .i64 0),.c (.int .i64 18000)],none,[]⟩,⟨some 55,.bin .add (.t 51) (.t 54),none,[]⟩,⟨some 56,.fad (.t 5) 13,none,[5]⟩,⟨none,.store (.t 56) 1 (.t 55),none,[5]⟩] [4,5])) .skip)) (.seq (.ops [⟨some 57,.load 17 true (.t 5),none,[5]⟩,⟨none,.store (.t 4) 17 (.t 57),none,[4]⟩] [4]) .ret))))
theorem r12_27:type_of% (rr c12_27.eq_1):=rr rfl
def a12:AFun:=⟨2,58,c12_27,[.cell 4 17 true]⟩
attribute [simp] r12_27
theorem m12:mFun Tryz.prog Tryz.f12 a12=true:=by decide +kernel
noncomputable def RegionC (m:Model) (l:List Int):Option Box:=Part (1≤m.dim∧m.dim≤4) (regionOf m.dim l)
theorem runs_Region (m:Model) (l:List Int) (c:Box) (h:RegionC m l=some c):Runs (tbl [(27,sp2 Pick),(17,sp3 Within)]) a30 [Arg.enc m,Arg.enc l] (Arg.enc c):=by
 obtain⟨⟨d1,d2⟩,rfl⟩:=part_some h
 refine⟨rfl,fun g=>run_def ?_⟩
 unfold a30
 have p0:Pick l 0=some (pick l 0):=pick_of l 0
 have p1:Pick l 1=some (pick l 1):=pick_of l 1
 have p2:Pick l 2=some (pick l 2):=pick_of l 2
 have p3:Pick l 3=some (pick l 3):=pick_of l 3
 have p4:Pick l 4=some (pick l 4):=pick_of l 4
 have p5:Pick l 5=some (pick l 5):=pick_of l 5
 have p6:Pick l 6=some (pick l 6):=pick_of l 6
 have p7:Pick l 7=some (pick l 7):=pick_of l 7
 have v0:=within_of (pick l 0) (-2) 9 (by omega)
 have u0:=within_of (pick l 1) 0 11 (by omega)
 have a0:=within_le (pick l 0) (-2) 9 (by omega)
 have b0:=within_le (pick l 1) 0 11 (by omega)
 have w0:IntKind.i64.wrap (within (pick l 0) (-2) 9+within (pick l 1) 0 11)=within (pick l 0) (-2) 9+within (pick l 1) 0 11:=wrap64 (by omega) (by omega)
 have v1:=within_of (pick l 2) (-2) 9 (by omega)
 have u1:=within_of (pick l 3) 0 11 (by omega)
 have a1:=within_le (pick l 2) (-2) 9 (by omega)
 have b1:=within_le (pick l 3) 0 11 (by omega)
 have w1:IntKind.i64.wrap (within (pick l 2) (-2) 9+within (pick l 3) 0 11)=within (pick l 2) (-2) 9+within (pick l 3) 0 11:=wrap64 (by omega) (by omega)
 have v2:=within_of (pick l 4) (-2) 9 (by omega)
 have u2:=within_of (pick l 5) 0 11 (by omega)
 have a2:=within_le (pick l 4) (-2) 9 (by omega)
 have b2:=within_le (pick l 5) 0 11 (by omega)
 have w2:IntKind.i64.wrap (within (pick l 4) (-2) 9+within (pick l 5) 0 11)=within (pick l 4) (-2) 9+within (pick l 5) 0 11:=wrap64 (by omega) (by omega)
 have v3:=within_of (pick l 6) (-2) 9 (by omega)
 have u3:=within_of (pick l 7) 0 11 (by omega)
 have a3:=within_le (pick l 6) (-2) 9 (by omega)
 have b3:=within_le (pick l 7) 0 11 (by omega)
 have w3:IntKind.i64.wrap (within (pick l 6) (-2) 9+within (pick l 7) 0 11)=within (pick l 6) (-2) 9+within (pick l 7) 0 11:=wrap64 (by omega) (by omega)
 have hd:m.dim=1∨m.dim=2∨m.dim=3∨m.dim=4:=by omega
 rcases hd with hd|hd|hd|hd <;>
  simp -implicitDefEqProofs [hd,run_round,p0,p1,p2,p3,p4,p5,p6,p7,v0,v1,v2,v3,u0,u1,u2,u3,w0,w1,w2,w3,regionOf,rSpan]
theorem c_Region:Contract Tryz.prog 30 (sp2 RegionC) :=
 contract_of_runs mixed (tbl_cons c_pick (tbl_cons c_Within tbl_nil)) Tryz.func30 m30 (sp2_runs runs_Region)
noncomputable def QueryC (a:Ask) (m:Model):Option Query:=Part (1≤m.dim∧m.dim≤4∧1≤m.classes∧m.classes≤3) (queryOf m a)
theorem runs_Query (a:Ask) (m:Model) (c:Query) (h:QueryC a m=some c):Runs (tbl [(17,sp3 Within),(30,sp2 RegionC)]) a12 [Arg.enc a,Arg.enc m] (Arg.enc c):=by
 obtain⟨⟨d1,d2,k1,k2⟩,rfl⟩:=part_some h
 refine⟨rfl,fun g=>run_def ?_⟩
 unfold a12
 have v1:=within_of a.kind 1 3 (by omega)
 have v2:=within_of a.cls 0 (m.classes-1) (by omega)
 have v3:=within_of a.budget 0 65536 (by omega)
 have v4:=within_of a.feature 0 (m.dim-1) (by omega)
 have v5:=within_of a.lo (-9000) 9000 (by omega)
 have v6:=within_of a.size 0 18000 (by omega)
 have w1:IntKind.i64.wrap (m.classes-1)=m.classes-1:=wrap64 (by omega) (by omega)
 have w2:IntKind.i64.wrap (m.dim-1)=m.dim-1:=wrap64 (by omega) (by omega)
 have a5:=within_le a.lo (-9000) 9000 (by omega)
 have a6:=within_le a.size 0 18000 (by omega)
 have w3:IntKind.i64.wrap (within a.lo (-9000) 9000+within a.size 0 18000)=within a.lo (-9000) 9000+within a.size 0 18000:=wrap64 (by omega) (by omega)
 have hR:RegionC m a.spans=some (regionOf m.dim a.spans):=part_of ⟨d1,d2⟩ _
 have hk:=within_le a.kind 1 3 (by omega)
 have hk:within a.kind 1 3=1∨within a.kind 1 3=2∨within a.kind 1 3=3:=by omega
 rcases hk with hk|hk|hk
 ·have q:qKind m a=1:=by unfold qKind;rw[hk];simp
  rw[hk] at v1
  simp -implicitDefEqProofs [v1,v2,v3,v4,v5,v6,w1,w2,w3,hR,queryOf,q]
 ·rw[hk] at v1
  by_cases hc:m.classes<2
  ·have q:qKind m a=1:=by unfold qKind;rw[hk];simp[hc]
   simp -implicitDefEqProofs [v1,v2,v3,v4,v5,v6,w1,w2,w3,hR,queryOf,q,hc]
  ·have q:qKind m a=2:=by unfold qKind;rw[hk];simp[hc]
   simp -implicitDefEqProofs [v1,v2,v3,v4,v5,v6,w1,w2,w3,hR,queryOf,q,hc]
 ·have q:qKind m a=3:=by unfold qKind;rw[hk];simp
  rw[hk] at v1
  simp -implicitDefEqProofs [v1,v2,v3,v4,v5,v6,w1,w2,w3,hR,queryOf,q]
theorem c_Query:Contract Tryz.prog 12 (sp2 QueryC) :=
 contract_of_runs mixed (tbl_cons c_Within (tbl_cons c_Region tbl_nil)) Tryz.func12 m12 (sp2_runs runs_Query)
end Go.Co
/- CO: a point of a box, by numbers. -/
namespace Go.Co
open Go.Am Go.Proofs
def small (s:Span):Prop:=-1125899906842624≤s.lo∧s.lo≤1125899906842624∧s.hi≤1125899906842624
theorem empty_spec {b:Box} (h:b.empty=false):b.s0.empty=false∧b.s1.empty=false∧b.s2.empty=false∧b.s3.empty=false∧b.s4.empty=false:=by
 unfold Box.empty at h
 simp only[Bool.or_eq_false_iff] at h
 exact⟨h.1.1.1.1,h.1.1.1.2,h.1.1.2,h.1.2,h.2⟩
end Go.Co
/- CO: margins, the best class (written by mkCoO.py). -/
set_option maxHeartbeats 16000000
set_option maxRecDepth 100000
namespace Go.Co
open Go.Am Go.Proofs
def c110_38:ACode:=.seq (.ops [⟨some 3,.box (.t 0) 6,none,[]⟩,⟨some 5,.box (.t 2) 10,none,[]⟩,⟨some 6,.mv (.c (.int .i64 0)),none,[]⟩,⟨some 7,.mv (.c (.bool false)),none,[]⟩] [1,3,5]) (.seq (.ops [⟨some 18,.load 6 true (.t 3),none,[3]⟩,⟨some 19,.mv (.t 1),none,[]⟩,⟨some 20,.load 10 true (.t 5),none,[5]⟩,⟨some 21,.call 109 [.t 18,.t 19,.t 20],none,[]⟩,⟨some 17,.mv (.t 21),none,[]⟩,⟨some 22,.ext (.t 17) 0,none,[]⟩,⟨some 23,.ext (.t 17) 1,none,[]⟩,⟨some 24,.ext (.t 17) 2,none,[]⟩,⟨some 8,.mv (.t 22),none,[]⟩,⟨some 9,.mv (.t 23),none,[]⟩,⟨some 10,.mv (.t 24),none,[]⟩] [1,3,5,8,10]) (.seq (.seq (.ops [⟨some 25,.mv (.t 10),none,[]⟩,⟨some 26,.un .not (.t 25),none,[]⟩,⟨some 27,.mv (.t 26),none,[]⟩,⟨some 28,.fad (.t 3) 1,some (27,false),[3]⟩,⟨some 29,.load 1 false (.t 28),some (27,false),[3]⟩,⟨some 30,.bin .lss (.t 29) (.c (.int .i64 2)),some (27,false),[]⟩,⟨some 31,.pick (.t 27) (.c (.bool true)) (.t 30),none,[]⟩] [1,3,5,8,31]) (.cond (.t 31) (.seq (.ops [⟨some 6,.mv (.c (.int .i64 0)),none,[]⟩,⟨some 7,.mv (.c (.bool false)),none,[]⟩] [6,7]) .ret) .skip)) (.seq (.ops [⟨some 11,.mv (.c (.int .i64 0)),none,[]⟩,⟨some 12,.mv (.c (.bool false)),none,[]⟩] [1,3,5,8,11,12]) (.seq (.seq (.ops [⟨some 32,.fad (.t 3) 1,none,[3]⟩,⟨some 33,.load 1 false (.t 32),none,[3]⟩,⟨some 34,.mv (.c (.int .i64 0)),none,[]⟩] [1,3,5,8,11,12,33,34]) (.block 0 (.loop (.keep [1,3,5,8,11,12,33,34] [3,5] (.seq (.ops [⟨some 35,.bin .lss (.t 34) (.t 33),none,[]⟩] [1,3,5,8,11,12,33,34,35]) (.seq (.cond (.t 35) .skip (.exit 0)) (.seq (.block 1 (.seq (.ops [⟨some 36,.mv (.t 34),none,[]⟩,⟨some 13,.mv (.t 36),none,[]⟩] [1,3,5,8,11,12,13,33,34]) (.seq (.seq (.ops [⟨some 37,.mv (.t 13),none,[]⟩,⟨some 38,.mv (.t 1),none,[]⟩,⟨some 39,.bin .eql (.t 37) (.t 38),none,[]⟩] [1,3,5,8,11,12,13,33,34,39]) (.cond (.t 39) (.exit 1) .skip)) (.seq (.ops [⟨some 41,.load 6 true (.t 3),none,[3]⟩,⟨some 42,.mv (.t 13),none,[]⟩,⟨some 43,.load 10 true (.t 5),none,[5]⟩,⟨some 44,.call 109 [.t 41,.t 42,.t 43],none,[]⟩,⟨some 40,.mv (.t 44),none,[]⟩,⟨some 45,.ext (.t 40) 0,none,[]⟩,⟨some 46,.ext (.t 40) 1,none,[]⟩,⟨some 47,.ext (.t 40) 2,none,[]⟩,⟨some 14,.mv (.t 45),none,[]⟩,⟨some 15,.mv (.t 46),none,[]⟩,⟨some 16,.mv (.t 47),none,[]⟩] [1,3,5,8,11,12,15,33,34]) (.seq (.ops [⟨some 48,.mv (.t 12),none,[]⟩,⟨some 49,.un .not (.t 48),none,[]⟩,⟨some 50,.mv (.t 49),none,[]⟩,⟨some 51,.mv (.t 8),some (50,false),[]⟩,⟨some 52,.mv (.t 15),some (50,false),[]⟩,⟨some 53,.bin .sub (.t 51) (.t 52),some (50,false),[]⟩,⟨some 54,.mv (.t 11),some (50,false),[]⟩,⟨some 55,.bin .lss (.t 53) (.t 54),some (50,false),[]⟩,⟨some 56,.pick (.t 50) (.c (.bool true)) (.t 55),none,[]⟩] [1,3,5,8,11,12,15,33,34,56]) (.cond (.t 56) (.ops [⟨some 57,.mv (.t 8),none,[]⟩,⟨some 58,.mv (.t 15),none,[]⟩,⟨some 59,.bin .sub (.t 57) (.t 58),none,[]⟩,⟨some 11,.mv (.t 59),none,[]⟩,⟨some 12,.mv (.c (.bool true)),none,[]⟩] [1,3,5,8,11,12,33,34]) .skip)))))) (.ops [⟨some 60,.bin .add (.t 34) (.c (.int .i64 1)),none,[]⟩,⟨some 34,.mv (.t 60),none,[]⟩] [1,3,5,8,11,12,33,34])))))))) (.seq (.ops [⟨some 61,.mv (.t 11),none,[]⟩,⟨some 6,.mv (.t 61),none,[]⟩,⟨some 7,.mv (.c (.bool true)),none,[]⟩] [6,7]) .ret)))))
theorem r110_38:type_of% (rr c110_38.eq_1):=rr rfl
def a110:AFun:=⟨3,62,c110_38,[.t 6,.t 7]⟩
attribute [simp] r110_38
theorem m110:mFun Tryz.prog Tryz.f110 a110=true:=by decide +kernel
def c22_28:ACode:=.seq (.ops [⟨some 2,.box (.t 0) 6,none,[]⟩,⟨some 3,.box (.t 1) 4,none,[]⟩,⟨some 4,.mv (.c (.int .i64 0)),none,[]⟩] [2,3]) (.seq (.seq (.ops [⟨some 7,.load 6 true (.t 2),none,[2]⟩,⟨some 8,.call 38 [.t 7],none,[]⟩,⟨some 9,.un .not (.t 8),none,[]⟩] [2,3,9]) (.cond (.t 9) (.seq (.ops [⟨some 4,.mv (.c (.int .i64 (-1))),none,[]⟩] [4]) .ret) .skip)) (.seq (.ops [⟨some 5,.mv (.c (.int .i64 0)),none,[]⟩] [2,3,5]) (.seq (.seq (.ops [⟨some 6,.mv (.c (.int .i64 1)),none,[]⟩] [2,3,5,6]) (.block 0 (.loop (.keep [2,3,5,6] [2,3] (.seq (.seq (.ops [⟨some 10,.mv (.t 6),none,[]⟩,⟨some 11,.fad (.t 2) 1,none,[2]⟩,⟨some 12,.load 1 false (.t 11),none,[2]⟩,⟨some 13,.bin .lss (.t 10) (.t 12),none,[]⟩] [2,3,5,6,13]) (.cond (.t 13) .skip (.exit 0))) (.seq (.block 1 (.seq (.ops [⟨some 16,.load 6 true (.t 2),none,[2]⟩,⟨some 17,.mv (.t 6),none,[]⟩,⟨some 18,.load 4 true (.t 3),none,[3]⟩,⟨some 19,.call 39 [.t 16,.t 17,.t 18],none,[]⟩,⟨some 20,.load 6 true (.t 2),none,[2]⟩,⟨some 21,.mv (.t 5),none,[]⟩,⟨some 22,.load 4 true (.t 3),none,[3]⟩,⟨some 23,.call 39 [.t 20,.t 21,.t 22],none,[]⟩,⟨some 24,.bin .gtr (.t 19) (.t 23),none,[]⟩] [2,3,5,6,24]) (.cond (.t 24) (.ops [⟨some 25,.mv (.t 6),none,[]⟩,⟨some 5,.mv (.t 25),none,[]⟩] [2,3,5,6]) .skip))) (.ops [⟨some 14,.mv (.t 6),none,[]⟩,⟨some 15,.bin .add (.t 14) (.c (.int .i64 1)),none,[]⟩,⟨some 6,.mv (.t 15),none,[]⟩] [2,3,5,6]))))))) (.seq (.ops [⟨some 26,.mv (.t 5),none,[]⟩,⟨some 4,.mv (.t 26),none,[]⟩] [4]) .ret))))
def a22:AFun:=⟨2,27,c22_28,[.t 4]⟩
def other1 (c:Int):Int:=if c=0 then 1 else 0
def other2 (c:Int):Int:=if c=2 then 1 else 2
def marD (m:Model) (c:Int) (b:Box) (o:Int):Int:=(boundP m c b).1-(boundP m o b).2
def margin (m:Model) (c:Int) (b:Box):Int:=if m.classes=2 then marD m c b (other1 c) else min2 (marD m c b (other1 c)) (marD m c b (other2 c))
noncomputable def MarginC (m:Model) (c:Int) (b:Box):Option (Int×Bool):=Part (RM m∧okB b) (if c<0∨m.classes≤c∨m.classes<2∨b.empty=true then (0,false) else (margin m c b,true))
theorem boundS_some {m:Model} (hm:RM m) {b:Box} (hb:okB b) (he:b.empty=false) {c:Int} (h0:0≤c) (h1:c<m.classes):BoundS m c b=some ⟨(boundP m c b).1,(boundP m c b).2,true⟩:=by
 unfold BoundS
 rw[part_of ⟨hm,hb⟩,boundM,if_neg (by simp[he];omega)]
theorem boundS_none {m:Model} (hm:RM m) {b:Box} (hb:okB b) {c:Int} (h:c<0∨m.classes≤c∨b.empty=true):BoundS m c b=some ⟨0,0,false⟩:=by
 unfold BoundS
 rw[part_of ⟨hm,hb⟩,boundM,if_pos h]
theorem runs_Margin (m:Model) (c:Int) (b:Box) (r:Int×Bool) (h:MarginC m c b=some r):Runs (tbl [(109,sp3 BoundS)]) a110 [Arg.enc m,Arg.enc c,Arg.enc b] (Arg.enc r):=by
 obtain⟨⟨hm,hb⟩,rfl⟩:=part_some h
 clear h
 refine⟨rfl,fun g=>run_def ?_⟩
 unfold a110
 have hcl:=hm.classes
 by_cases hn:c<0∨m.classes≤c∨b.empty=true
 case pos =>
  have hS:=boundS_none hm hb hn
  have:c<0∨m.classes≤c∨m.classes<2∨b.empty=true:=by rcases hn with h|h|h<;>simp[h]
  rw[if_pos this]
  simp -implicitDefEqProofs [hS]
 have he:b.empty=false:=by cases he:b.empty<;>simp[he] at hn ⊢
 have h0:0≤c:=by omega
 have h1:c<m.classes:=by omega
 have hS:=boundS_some hm hb he h0 h1
 by_cases h2:m.classes<2
 case pos =>
  rw[if_pos (Or.inr (Or.inr (Or.inl h2)))]
  simp -implicitDefEqProofs [hS,h2]
 rw[if_neg (by simp[he];omega)]
 have p0:=boundP_le hm 0 he
 have p1:=boundP_le hm 1 he
 have p2:=boundP_le hm 2 he
 have s0:=boundS_some hm hb he (c:=0) (by omega) (by omega)
 have s1:=boundS_some hm hb he (c:=1) (by omega) (by omega)
 have s2:m.classes=3→_:=fun h=>boundS_some hm hb he (c:=2) (by omega) (by omega)
 obtain⟨dim,classes,bias,trees⟩:=m
 simp only at hcl h1 h2 s2
 have hcs:(classes=2∧c=0)∨(classes=2∧c=1)∨(classes=3∧c=0)∨(classes=3∧c=1)∨(classes=3∧c=2):=by omega
 rcases hcs with⟨rfl,rfl⟩|⟨rfl,rfl⟩|⟨rfl,rfl⟩|⟨rfl,rfl⟩|⟨rfl,rfl⟩
 ·skip
  have w0:IntKind.i64.wrap ((boundP ⟨dim,2,bias,trees⟩ 0 b).1-(boundP ⟨dim,2,bias,trees⟩ 1 b).2)=marD ⟨dim,2,bias,trees⟩ 0 b 1:=by unfold marD;exact wrap64 (by omega) (by omega)
  have hmm:margin ⟨dim,2,bias,trees⟩ 0 b=marD ⟨dim,2,bias,trees⟩ 0 b 1:=by simp[margin,other1]
  rw[hmm]
  clear hmm
  simp -implicitDefEqProofs [hS,s0,s1,w0]
  rw[run_round]
  simp -implicitDefEqProofs [hS,s0,s1,w0]
  rw[run_round]
  simp -implicitDefEqProofs [hS,s0,s1,w0]
  rw[run_round]
  simp -implicitDefEqProofs [hS,s0,s1,w0]
 ·skip
  have w0:IntKind.i64.wrap ((boundP ⟨dim,2,bias,trees⟩ 1 b).1-(boundP ⟨dim,2,bias,trees⟩ 0 b).2)=marD ⟨dim,2,bias,trees⟩ 1 b 0:=by unfold marD;exact wrap64 (by omega) (by omega)
  have hmm:margin ⟨dim,2,bias,trees⟩ 1 b=marD ⟨dim,2,bias,trees⟩ 1 b 0:=by simp[margin,other1]
  rw[hmm]
  clear hmm
  simp -implicitDefEqProofs [hS,s0,s1,w0]
  rw[run_round]
  simp -implicitDefEqProofs [hS,s0,s1,w0]
  rw[run_round]
  simp -implicitDefEqProofs [hS,s0,s1,w0]
  rw[run_round]
  simp -implicitDefEqProofs [hS,s0,s1,w0]
 ·skip
  have w0:IntKind.i64.wrap ((boundP ⟨dim,3,bias,trees⟩ 0 b).1-(boundP ⟨dim,3,bias,trees⟩ 1 b).2)=marD ⟨dim,3,bias,trees⟩ 0 b 1:=by unfold marD;exact wrap64 (by omega) (by omega)
  have w1:IntKind.i64.wrap ((boundP ⟨dim,3,bias,trees⟩ 0 b).1-(boundP ⟨dim,3,bias,trees⟩ 2 b).2)=marD ⟨dim,3,bias,trees⟩ 0 b 2:=by unfold marD;exact wrap64 (by omega) (by omega)
  have s2:=s2 rfl
  have hmm:margin ⟨dim,3,bias,trees⟩ 0 b=min2 (marD ⟨dim,3,bias,trees⟩ 0 b 1) (marD ⟨dim,3,bias,trees⟩ 0 b 2):=by simp[margin,other1,other2]
  rw[hmm]
  clear hmm
  unfold min2
  by_cases g:marD ⟨dim,3,bias,trees⟩ 0 b 2<marD ⟨dim,3,bias,trees⟩ 0 b 1
  ·simp -implicitDefEqProofs [hS,s0,s1,s2,w0,w1,g]
   rw[run_round]
   simp -implicitDefEqProofs [hS,s0,s1,s2,w0,w1,g]
   rw[run_round]
   simp -implicitDefEqProofs [hS,s0,s1,s2,w0,w1,g]
   rw[run_round]
   simp -implicitDefEqProofs [hS,s0,s1,s2,w0,w1,g]
   rw[run_round]
   simp -implicitDefEqProofs [hS,s0,s1,s2,w0,w1,g]
  ·simp -implicitDefEqProofs [hS,s0,s1,s2,w0,w1,g]
   rw[run_round]
   simp -implicitDefEqProofs [hS,s0,s1,s2,w0,w1,g]
   rw[run_round]
   simp -implicitDefEqProofs [hS,s0,s1,s2,w0,w1,g]
   rw[run_round]
   simp -implicitDefEqProofs [hS,s0,s1,s2,w0,w1,g]
   rw[run_round]
   simp -implicitDefEqProofs [hS,s0,s1,s2,w0,w1,g]
 ·skip
  have w0:IntKind.i64.wrap ((boundP ⟨dim,3,bias,trees⟩ 1 b).1-(boundP ⟨dim,3,bias,trees⟩ 0 b).2)=marD ⟨dim,3,bias,trees⟩ 1 b 0:=by unfold marD;exact wrap64 (by omega) (by omega)
  have w1:IntKind.i64.wrap ((boundP ⟨dim,3,bias,trees⟩ 1 b).1-(boundP ⟨dim,3,bias,trees⟩ 2 b).2)=marD ⟨dim,3,bias,trees⟩ 1 b 2:=by unfold marD;exact wrap64 (by omega) (by omega)
  have s2:=s2 rfl
  have hmm:margin ⟨dim,3,bias,trees⟩ 1 b=min2 (marD ⟨dim,3,bias,trees⟩ 1 b 0) (marD ⟨dim,3,bias,trees⟩ 1 b 2):=by simp[margin,other1,other2]
  rw[hmm]
  clear hmm
  unfold min2
  by_cases g:marD ⟨dim,3,bias,trees⟩ 1 b 2<marD ⟨dim,3,bias,trees⟩ 1 b 0
  ·simp -implicitDefEqProofs [hS,s0,s1,s2,w0,w1,g]
   rw[run_round]
   simp -implicitDefEqProofs [hS,s0,s1,s2,w0,w1,g]
   rw[run_round]
   simp -implicitDefEqProofs [hS,s0,s1,s2,w0,w1,g]
   rw[run_round]
   simp -implicitDefEqProofs [hS,s0,s1,s2,w0,w1,g]
   rw[run_round]
   simp -implicitDefEqProofs [hS,s0,s1,s2,w0,w1,g]
  ·simp -implicitDefEqProofs [hS,s0,s1,s2,w0,w1,g]
   rw[run_round]
   simp -implicitDefEqProofs [hS,s0,s1,s2,w0,w1,g]
   rw[run_round]
   simp -implicitDefEqProofs [hS,s0,s1,s2,w0,w1,g]
   rw[run_round]
   simp -implicitDefEqProofs [hS,s0,s1,s2,w0,w1,g]
   rw[run_round]
   simp -implicitDefEqProofs [hS,s0,s1,s2,w0,w1,g]
 ·skip
  have w0:IntKind.i64.wrap ((boundP ⟨dim,3,bias,trees⟩ 2 b).1-(boundP ⟨dim,3,bias,trees⟩ 0 b).2)=marD ⟨dim,3,bias,trees⟩ 2 b 0:=by unfold marD;exact wrap64 (by omega) (by omega)
  have w1:IntKind.i64.wrap ((boundP ⟨dim,3,bias,trees⟩ 2 b).1-(boundP ⟨dim,3,bias,trees⟩ 1 b).2)=marD ⟨dim,3,bias,trees⟩ 2 b 1:=by unfold marD;exact wrap64 (by omega) (by omega)
  have s2:=s2 rfl
  have hmm:margin ⟨dim,3,bias,trees⟩ 2 b=min2 (marD ⟨dim,3,bias,trees⟩ 2 b 0) (marD ⟨dim,3,bias,trees⟩ 2 b 1):=by simp[margin,other1,other2]
  rw[hmm]
  clear hmm
  unfold min2
  by_cases g:marD ⟨dim,3,bias,trees⟩ 2 b 1<marD ⟨dim,3,bias,trees⟩ 2 b 0
  ·simp -implicitDefEqProofs [hS,s0,s1,s2,w0,w1,g]
   rw[run_round]
   simp -implicitDefEqProofs [hS,s0,s1,s2,w0,w1,g]
   rw[run_round]
   simp -implicitDefEqProofs [hS,s0,s1,s2,w0,w1,g]
   rw[run_round]
   simp -implicitDefEqProofs [hS,s0,s1,s2,w0,w1,g]
   rw[run_round]
   simp -implicitDefEqProofs [hS,s0,s1,s2,w0,w1,g]
  ·simp -implicitDefEqProofs [hS,s0,s1,s2,w0,w1,g]
   rw[run_round]
   simp -implicitDefEqProofs [hS,s0,s1,s2,w0,w1,g]
   rw[run_round]
   simp -implicitDefEqProofs [hS,s0,s1,s2,w0,w1,g]
   rw[run_round]
   simp -implicitDefEqProofs [hS,s0,s1,s2,w0,w1,g]
   rw[run_round]
   simp -implicitDefEqProofs [hS,s0,s1,s2,w0,w1,g]
theorem c_Margin:Contract Tryz.prog 110 (sp3 MarginC) :=
 contract_of_runs mixed (tbl_cons c_bSum tbl_nil) Tryz.func110 m110 (sp3_runs runs_Margin)
end Go.Co
