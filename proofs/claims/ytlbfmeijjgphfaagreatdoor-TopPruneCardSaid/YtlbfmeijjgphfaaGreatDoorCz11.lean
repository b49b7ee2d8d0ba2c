/- CO: texts of this claim, one behind the other. -/
import Derived.Test.YtlbfmeijjgphfaaGreatDoorCz10
import Derived.Test.YtlbfmeijjgphfaaGreatDoorCz8
import Derived.Test.YtlbfmeijjgphfaaGreatDoorCz1
set_option linter.unusedVariables false
set_option linter.unusedSimpArgs false
/- CO: is a verdict proven? by the checker, and by the document. -/
set_option maxHeartbeats 16000000
set_option maxRecDepth 100000
namespace Go.Co
open Go.Am Go.Proofs
attribute [-simp] Go.Am.eff_gcall
theorem walkS_ok:∀(R:List Box) (l:List Step),(∀ x∈R,okB x)→∀ L,walkS R l=some L→∀ x∈L,okB x
 | [],[],_,L,h,x,hx=>by
  unfold walkS at h;cases h;simp at hx
 | _::_,[],_,L,h,x,hx=>by unfold walkS at h;cases h
 | [],_::_,_,L,h,x,hx=>by unfold walkS at h;cases h
 | b::bs,s::l,hR,L,h,x,hx=>by
  unfold walkS at h
  split at h
  ·rw[Option.map_eq_some_iff] at h
   obtain⟨L',h',rfl⟩:=h
   rcases List.mem_cons.1 hx with rfl|hx
   ·exact hR _ (by simp)
   ·exact walkS_ok bs l (fun y hy=>hR y (by simp[hy])) L' h' x hx
  ·split at h
   ·rename_i hin
    have hbok:=hR b (by simp)
    have hg64:=okB_get hbok s.place
    have hat:ok64 s.cut:=by unfold okS64 ok64 at hg64;unfold ok64;omega
    have hok2:=okB_cut hbok s.place hat
    refine walkS_ok _ l (fun y hy=>?_) L h x hx
    simp only[List.mem_cons] at hy
    rcases hy with rfl|rfl|hy
    ·exact hok2.1
    ·exact hok2.2
    ·exact hR y (by simp[hy])
   ·cases h
theorem walkS_len:∀(R:List Box) (l:List Step),∀ L,walkS R l=some L→L.length≤l.length
 | [],[],L,h=>by unfold walkS at h;cases h;simp
 | _::_,[],L,h=>by unfold walkS at h;cases h
 | [],_::_,L,h=>by unfold walkS at h;cases h
 | b::bs,s::l,L,h=>by
  unfold walkS at h
  split at h
  ·rw[Option.map_eq_some_iff] at h
   obtain⟨L',h',rfl⟩:=h
   have:=walkS_len bs l L' h'
   simp;omega
  ·split at h
   ·have:=walkS_len _ l L h
    simp;omega
   ·cases h
def c24_24:ACode:=.seq (.ops [⟨some 32,.bin .lss (.t 31) (.t 30),none,[]⟩] [3,4,9,29,30,31,32]) (.seq (.cond (.t 32) .skip (.exit 1)) (.seq (.block 2 (.seq (.ops [⟨some 33,.ias (.t 29) (.t 31) 10,none,[]⟩,⟨some 34,.load 10 true (.t 33),none,[]⟩,⟨some 11,.alloc [.int .i64 0,.int .i64 0,.int .i64 0,.int .i64 0,.int .i64 0,.int .i64 0,.int .i64 0,.int .i64 0,.int .i64 0,.int .i64 0],none,[]⟩,⟨none,.store (.t 11) 10 (.t 34),none,[11]⟩] [3,4,9,11,29,30,31]) (.seq (.ops [⟨some 35,.load 6 true (.t 3),none,[3]⟩,⟨some 36,.load 17 true (.t 4),none,[4]⟩,⟨some 37,.load 10 true (.t 11),none,[11]⟩,⟨some 38,.call 50 [.t 35,.t 36,.t 37],none,[]⟩,⟨some 39,.un .not (.t 38),none,[]⟩] [3,4,9,29,30,31,39]) (.cond (.t 39) (.seq (.ops [⟨some 6,.mv (.c (.bool false)),none,[]⟩] [6]) .ret) .skip)))) (.ops [⟨some 40,.bin .add (.t 31) (.c (.int .i64 1)),none,[]⟩,⟨some 31,.mv (.t 40),none,[]⟩] [3,4,9,29,30,31])))
theorem r24_24:type_of% (rr c24_24.eq_1):=rr rfl
def c24_47:ACode:=.seq (.ops [⟨some 3,.box (.t 0) 6,none,[]⟩,⟨some 4,.box (.t 1) 17,none,[]⟩,⟨some 5,.box (.t 2) 8,none,[]⟩,⟨some 6,.mv (.c (.bool false)),none,[]⟩] [3,4,5]) (.seq (.seq (.ops [⟨some 12,.load 6 true (.t 3),none,[3]⟩,⟨some 13,.load 17 true (.t 4),none,[4]⟩,⟨some 14,.call 40 [.t 12,.t 13],none,[]⟩,⟨some 15,.un .not (.t 14),none,[]⟩] [3,4,5,15]) (.cond (.t 15) (.seq (.ops [⟨some 6,.mv (.c (.bool false)),none,[]⟩] [6]) .ret) .skip)) (.seq (.ops [⟨some 16,.load 17 true (.t 4),none,[4]⟩,⟨some 17,.call 15 [.t 16],none,[]⟩,⟨some 7,.alloc [.int .i64 0,.int .i64 0,.int .i64 0,.int .i64 0,.int .i64 0,.int .i64 0,.int .i64 0,.int .i64 0,.int .i64 0,.int .i64 0],none,[]⟩,⟨none,.store (.t 7) 10 (.t 17),none,[7]⟩] [3,4,5,7]) (.seq (.seq (.ops [⟨some 18,.fad (.t 5) 0,none,[5]⟩,⟨some 19,.load 1 false (.t 18),none,[5]⟩] [3,4,5,7,19]) (.block 0 (.seq (.ops [⟨some 21,.bin .eql (.t 19) (.c (.int .i64 1)),none,[]⟩,⟨some 20,.mv (.t 21),none,[]⟩] [3,4,5,7,19,20]) (.cond (.t 20) (.seq (.ops [⟨some 23,.load 10 true (.t 7),none,[7]⟩,⟨some 24,.fad (.t 5) 1,none,[5]⟩,⟨some 25,.load 1 false (.t 24),none,[5]⟩,⟨some 26,.call 49 [.t 23,.t 25],none,[]⟩,⟨some 22,.mv (.t 26),none,[]⟩,⟨some 27,.ext (.t 22) 0,none,[]⟩,⟨some 28,.ext (.t 22) 1,none,[]⟩,⟨some 8,.mv (.t 27),none,[]⟩,⟨some 9,.mv (.t 28),none,[]⟩] [3,4,8,9]) (.seq (.seq (.ops [⟨some 29,.mv (.t 8),none,[]⟩,⟨some 30,.len (.t 29),none,[]⟩,⟨some 31,.mv (.c (.int .i64 0)),none,[]⟩] [3,4,9,29,30,31]) (.block 1 (.loop (.keep [3,4,9,29,30,31] [3,4] c24_24)))) (.seq (.ops [⟨some 41,.mv (.t 9),none,[]⟩,⟨some 6,.mv (.t 41),none,[]⟩] [6]) .ret))) (.seq (.ops [⟨some 43,.bin .eql (.t 19) (.c (.int .i64 2)),none,[]⟩,⟨some 42,.mv (.t 43),none,[]⟩] [3,4,5,7,42]) (.cond (.t 42) (.seq (.ops [⟨some 44,.load 10 true (.t 7),none,[7]⟩,⟨some 45,.fad (.t 5) 2,none,[5]⟩,⟨some 46,.load 4 true (.t 45),none,[5]⟩,⟨some 47,.fad (.t 5) 6,none,[5]⟩,⟨some 48,.load 1 false (.t 47),none,[5]⟩,⟨some 49,.call 51 [.t 44,.t 46,.t 48],none,[]⟩,⟨some 50,.mv (.t 49),none,[]⟩,⟨some 51,.load 6 true (.t 3),some (50,true),[3]⟩,⟨some 52,.load 17 true (.t 4),some (50,true),[4]⟩,⟨some 53,.fad (.t 5) 2,some (50,true),[5]⟩,⟨some 54,.load 4 true (.t 53),some (50,true),[5]⟩,⟨some 55,.fad (.t 5) 6,some (50,true),[5]⟩,⟨some 56,.load 1 false (.t 55),some (50,true),[5]⟩,⟨some 57,.call 19 [.t 51,.t 52,.t 54,.t 56],some (50,true),[]⟩,⟨some 58,.pick (.t 50) (.t 57) (.c (.bool false)),none,[]⟩,⟨some 6,.mv (.t 58),none,[]⟩] [6]) .ret) .skip)))))) (.seq (.ops [⟨some 6,.mv (.c (.bool false)),none,[]⟩] [6]) .ret))))
theorem r24_47:type_of% (rr c24_47.eq_1):=rr rfl
def a24:AFun:=⟨3,59,c24_47,[.t 6]⟩
attribute [simp] r24_24 r24_47
theorem m24:mFun Tryz.prog Tryz.f24 a24=true:=by decide +kernel
def allShown (m:Model) (q:Query) (l:Option (List Box)):Bool:=match l with
 | some bs=>bs.all (shownB m q)
 | none=>false
def holdsV (m:Model) (q:Query) (l:List Step):Bool:=decide (0<deepV l)&&allShown m q (walkS [startOf q] l)
def provesM (m:Model) (q:Query) (v:Verdict):Bool:=okQuery m q&&(if v.kind=1 then holdsV m q v.proof else if v.kind=2 then hasB (startOf q) v.witness v.twin&&breaks m q v.witness v.twin else false)
noncomputable def ProvesC (m:Model) (q:Query) (v:Verdict):Option Bool:=if m.dim<1 then some false else Part (RM m) (provesM m q v)
theorem runs_Proves (m:Model) (q:Query) (v:Verdict) (r:Bool) (h:ProvesC m q v=some r):Runs (tbl [(40,sp2 QRight),(15,sp1 fun q=>some (startOf q)),(49,sp2 PSumsC),(50,sp3 ShownC),(51,sp3 fun b p t=>some (hasB b p t)),(19,sp4 BreaksC)]) a24 [Arg.enc m,Arg.enc q,Arg.enc v] (Arg.enc r):=by
 unfold ProvesC at h
 refine⟨rfl,fun g=>run_def ?_⟩
 unfold a24
 by_cases hd:m.dim<1
 case pos =>
  rw[if_pos hd] at h
  cases h
  have hQ:QRight m q=some false:=by unfold QRight;rw[if_pos (by omega)]
  simp -implicitDefEqProofs [hQ]
 rw[if_neg hd] at h
 obtain⟨hm,rfl⟩:=part_some h
 clear h
 have hQ:QRight m q=some (okQuery m q):=by unfold QRight;rw[if_neg (by have:=hm.dim;omega)];exact part_of hm _
 unfold provesM
 cases hq:okQuery m q
 case false =>
  rw[hq] at hQ
  simp -implicitDefEqProofs [hQ]
 rw[hq] at hQ
 have hst:=okQuery_start hq
 obtain⟨kind,pf,w,tw,sp⟩:=v
 simp only[Bool.true_and]
 by_cases k1:kind=1
 case neg =>
  rw[if_neg k1]
  by_cases k2:kind=2
  case neg=>simp -implicitDefEqProofs [hQ,k1,k2]
  subst k2
  have hB:BreaksC m q w tw=some (breaks m q w tw):=part_of hm _
  cases hh:hasB (startOf q) w tw
  case false=>simp -implicitDefEqProofs [hQ,hh]
  simp -implicitDefEqProofs [hQ,hh,hB]
 subst k1
 rw[if_pos rfl]
 unfold holdsV
 have hPS:PSumsC (startOf q) pf=some (if 0<deepV pf then (match walkS [startOf q] pf with
  | some out=>(out,true)
  | none=>([],false)) else ([],false)):=part_of hst.2.1 _
 by_cases hdp:0<deepV pf
 case neg =>
  rw[if_neg hdp] at hPS
  simp -implicitDefEqProofs [hQ,hPS,hdp,encL_nil,run_round]
 rw[if_pos hdp] at hPS
 have hok:=walkS_ok [startOf q] pf
 have hlen:=walkS_len [startOf q] pf
 have h6:pf.length≤65536:=by
  unfold deepV at hdp
  split at hdp
  ·assumption
  ·omega
 cases hwk:walkS [startOf q] pf with
 | none =>
  rw[hwk] at hPS
  simp -implicitDefEqProofs [hQ,hPS,hdp,allShown,encL_nil,run_round]
 | some L =>
  rw[hwk] at hPS
  have hLok:=hok (by simpa using hst.2.1) L hwk
  have hLl:=hlen L hwk
  have b1:L.length≤maxN:=by unfold maxN;omega
  have hSh:∀ x∈L,ShownC m q x=some (shownB m q x):=fun x hx=>part_of ⟨hm,hq,hLok x hx⟩ _
  simp -implicitDefEqProofs [hQ,hPS,hdp,allShown,b1]
  refine run_while (c:=c24_24) (fun n s=>∃(i:Nat) (g:Nat→Nat),i+n=L.length∧(∀ x∈L.take i,shownB m q x=true)∧s=⟨[(3,.ptr 3 (g 3) 0),(4,.ptr 4 (g 4) 0),(9,.bool true),(29,.lst L.length (encL L)),(30,.int .i64 L.length),(31,.int .i64 i)],
   [(3,⟨Row.enc m,false,0⟩),(4,⟨Row.enc q,false,0⟩)],g⟩) L.length ⟨0,bump 7 (bump 5 (bump 4 (bump 3 g))),by omega,by simp,by simp⟩ ?_
  rintro n s ⟨i,g,hi,hal,rfl⟩
  by_cases h1:i<L.length
  case pos =>
   have w1:IntKind.i64.wrap ((i:Int)+1)=(i:Int)+1:=wrap64 (by omega) (by omega)
   have hrow:=rd_box L i h1
   have hB:=hSh L[i] (List.getElem_mem h1)
   have hmem:L[i]∈L:=List.getElem_mem h1
   have htk:L.take (i+1)=L.take i++[L[i]]:=List.take_succ_eq_append_getElem h1
   generalize L[i]=x at *
   cases hx:shownB m q x
   case false =>
    have:L.all (shownB m q)=false:=by
     rw[List.all_eq_false]
     exact⟨x,hmem,by simp[hx]⟩
    rw[hx] at hB
    simp -implicitDefEqProofs [h1,hrow,hB,this]
   case true =>
    rw[hx] at hB
    simp -implicitDefEqProofs [h1,hrow,hB,w1]
    refine⟨n-1,by omega,i+1,by omega,fun y hy=>?_,by omega⟩
    rw[htk,List.mem_append,List.mem_singleton] at hy
    rcases hy with hy|rfl
    ·exact hal y hy
    ·exact hx
  case neg =>
   have hil:i=L.length:=by omega
   subst hil
   rw[List.take_length] at hal
   have:L.all (shownB m q)=true:=List.all_eq_true.2 hal
   simp -implicitDefEqProofs [h1,this]
theorem c_Proves:Contract Tryz.prog 24 (sp3 ProvesC) :=
 contract_of_runs mixed (tbl_cons c_qRight (tbl_cons c_Start (tbl_cons c_pSums (tbl_cons c_shown (tbl_cons c_Has (tbl_cons c_Breaks tbl_nil)))))) Tryz.func24 m24 (sp3_runs runs_Proves)
def checkN (m:Model) (q:Query):List Box→List Step→Bool
 | [],[]=>true
 | _::_,[]=>false
 | [],_::_=>false
 | b::bs,s::l=>if 200≤bs.length then false else if s.sum then (if s.place=0∧s.cut=0 then (if closedM m q b then checkN m q bs l else false) else false) else
  if 0≤s.place∧s.place≤4 then (if (b.get s.place).lo≤s.cut∧s.cut<(b.get s.place).hi then checkN m q ((cutB b s.place s.cut).1::(cutB b s.place s.cut).2::bs) l else false) else false
def checkM (m:Model) (q:Query) (l:List Step):Bool:=okQuery m q&&decide (l.length≤65536)&&checkN m q [startOf q] l
end Go.Co
/- CO: the document's check, and that it says what the checker says. -/
namespace Go.Co
open Go.Am Go.Proofs
attribute [-simp] Go.Am.eff_gcall
theorem checkN_deep {m:Model} {q:Query} {b:Box} {bs:List Box} {l:List Step} (h:checkN m q (b::bs) l=true):bs.length<200:=by
 cases l with
 | nil=>unfold checkN at h;cases h
 | cons s l =>
  unfold checkN at h
  split at h
  ·cases h
  ·omega
theorem check_walk {m:Model} (hm:RM m) {q:Query} (hq:okQuery m q=true):∀(l:List Step) (bs:List Box) (most:Nat),bs.length≤most→1≤most→((0<deepN bs.length most l∧allShown m q (walkS bs l)=true)↔(most≤200∧checkN m q bs l=true))
 | [],bs,most,h1,h2=>by
  cases bs with
  | nil =>
   rw[List.length_nil,deepN,walkS,checkN]
   by_cases h:most≤200
   ·rw[if_pos ⟨rfl,h⟩]
    simp[allShown,h]
    omega
   ·rw[if_neg (fun x=>h x.2)]
    simp[h]
  | cons b bs =>
   rw[deepN,walkS,checkN,if_neg (by simp)]
   simp
 | s::l,[],most,h1,h2=>by
  rw[List.length_nil,deepN,checkN,if_pos rfl]
  simp
 | s::l,b::bs,most,h1,h2=>by
  rw[deepN,if_neg (by simp),walkS,checkN]
  rw[List.length_cons] at h1 ⊢
  have hsb:=closed_shownB hm hq b
  unfold rightS
  obtain⟨sm,k,c⟩:=s
  simp only
  cases sm
  case true =>
   simp only[if_true]
   by_cases hz:k=0∧c=0
   case neg =>
    rw[if_neg hz,if_neg (by simpa using fun e e'=>hz ⟨e,e'⟩)]
    simp
   rw[if_pos hz,if_pos (by simp[hz.1,hz.2]),Nat.add_sub_cancel]
   have ih:=check_walk hm hq l bs most (by omega) h2
   have e:allShown m q ((walkS bs l).map (b::·))=(shownB m q b&&allShown m q (walkS bs l)):=by
    cases walkS bs l<;>simp[allShown]
   rw[e,Bool.and_eq_true,← hsb]
   cases hc:closedM m q b
   ·simp
   ·simp only[if_true,true_and]
    rw[ih]
    by_cases h200:200≤bs.length
    ·rw[if_pos h200]
     simp
     omega
    ·rw[if_neg h200]
  case false =>
   simp only[if_false,Bool.false_eq_true]
   by_cases hk:0≤k∧k≤4
   case neg =>
    rw[if_neg hk,if_neg (by simpa using fun e=>(by omega:4<k))]
    simp
   rw[if_pos hk,if_pos (by simp[hk.1,hk.2])]
   by_cases hin:(b.get k).lo≤c∧c<(b.get k).hi
   case neg =>
    rw[if_neg hin,if_neg hin]
    simp[allShown]
   rw[if_pos hin,if_pos hin]
   have ih:=check_walk hm hq l ((cutB b k c).1::(cutB b k c).2::bs) (if most<bs.length+1+1 then bs.length+1+1 else most) (by simp only[List.length_cons];split<;>omega) (by split<;>omega)
   rw[List.length_cons,List.length_cons] at ih
   rw[ih]
   constructor
   ·rintro⟨g1,g2⟩
    split at g1
    ·exact⟨by omega,by rw[if_neg (by omega)];exact g2⟩
    ·exact⟨by omega,by rw[if_neg (by omega)];exact g2⟩
   ·rintro⟨g1,g2⟩
    split at g2
    ·cases g2
    ·have:=checkN_deep g2
     rw[List.length_cons] at this
     exact⟨by split<;>omega,g2⟩
theorem holds_check {m:Model} (hm:RM m) {q:Query} (l:List Step):(okQuery m q&&holdsV m q l)=checkM m q l:=by
 unfold checkM
 cases hq:okQuery m q
 ·simp
 have h:=check_walk hm hq l [startOf q] 1 (by simp) (by omega)
 rw[List.length_singleton] at h
 simp only[Bool.true_and]
 unfold holdsV deepV
 by_cases h6:l.length≤65536
 ·rw[if_pos h6]
  rw[Bool.eq_iff_iff,Bool.and_eq_true,Bool.and_eq_true,decide_eq_true_eq,decide_eq_true_eq]
  constructor
  ·rintro⟨g1,g2⟩
   exact⟨h6,(h.1 ⟨by omega,g2⟩).2⟩
  ·rintro⟨_,g2⟩
   have:=h.2 ⟨by omega,g2⟩
   exact⟨by omega,this.2⟩
 ·rw[if_neg h6]
  simp[h6]
end Go.Co
/- CO: what proofs and searches say of points. -/
namespace Go.Co
open Go.Am Go.Proofs
theorem cut_cover {b:Box} {k:Int} (h0:0≤k) (h5:k<5) {n:Int} (h1:(b.get k).lo≤n) (h2:n<(b.get k).hi) {p:Point} {t:Int} (hp:InB b p t):InB (cutB b k n).1 p t∨InB (cutB b k n).2 p t:=by
 rw[cutB_halves h0 h5 h1 h2]
 rw[inB_pt] at hp
 have hk:=hp k h0 h5
 unfold InS at hk
 by_cases hle:ptG p t k≤n
 ·refine .inl (inB_pt.2 fun i i0 i5=>?_)
  rw[set_get_ite _ _ h0 h5 i0 i5]
  split
  ·rename_i e;subst e;exact⟨hk.1,hle⟩
  ·exact hp i i0 i5
 ·refine .inr (inB_pt.2 fun i i0 i5=>?_)
  rw[set_get_ite _ _ h0 h5 i0 i5]
  split
  ·rename_i e;subst e;exact⟨by show n+1≤ptG p t i;omega,hk.2⟩
  ·exact hp i i0 i5
theorem check_sound {m:Model} (hm:RM m) {q:Query}:∀(l:List Step) (bs:List Box),checkN m q bs l=true→∀ b∈bs,∀ p t,InB b p t→breaks m q p t=false
 | [],[],_,b,hb,_,_,_=>by simp at hb
 | [],_::_,h,_,_,_,_,_=>by unfold checkN at h;cases h
 | _::_,[],h,_,_,_,_,_=>by unfold checkN at h;cases h
 | s::l,x::bs,h,b,hb,p,t,hp=>by
  unfold checkN at h
  split at h
  ·cases h
  ·split at h
   ·split at h
    ·split at h
     ·rename_i hc
      rcases List.mem_cons.1 hb with rfl|hb
      ·exact closed_sound hm hc hp
      ·exact check_sound hm l bs h b hb p t hp
     ·cases h
    ·cases h
   ·split at h
    ·rename_i hk
     split at h
     ·rename_i hin
      have ih:=check_sound hm l _ h
      rcases List.mem_cons.1 hb with rfl|hb
      ·rcases cut_cover hk.1 (by omega) hin.1 hin.2 hp with hp|hp
       ·exact ih _ (by simp) p t hp
       ·exact ih _ (by simp) p t hp
      ·exact ih b (by simp[hb]) p t hp
     ·cases h
    ·cases h
theorem cut_some {b:Box} (hb:b.empty=false) {k:Int} (h0:0≤k) (h5:k<5) {n:Int} (h1:(b.get k).lo≤n) (h2:n<(b.get k).hi):(cutB b k n).1.empty=false∧(cutB b k n).2.empty=false:=by
 rw[cutB_halves h0 h5 h1 h2,set_empty hb _ _ h0 h5,set_empty hb _ _ h0 h5]
 unfold Span.empty
 simp only[decide_eq_false_iff_not]
 omega
theorem searchN_cons (m:Model) (q:Query) (n:Nat) (sp:Int) (b:Box) (bs:List Box) (pf:List Step):searchN m q (n+1) sp (b::bs) pf=if closedM m q b then searchN m q n (sp+1) bs (pf++[sumS]) else
  if corner m q b then ⟨2,[],lowB b,b.s4.hi,sp+1⟩ else
  if (splitM m q b).c then searchN m q n (sp+1) ((cutB b (splitM m q b).a (splitM m q b).b).1::(cutB b (splitM m q b).a (splitM m q b).b).2::bs) (pf++[⟨false,(splitM m q b).a,(splitM m q b).b⟩]) else ⟨3,[],zeroP,0,sp+1⟩:=rfl
theorem searchN_nil (m:Model) (q:Query) (n:Nat) (sp:Int) (pf:List Step):searchN m q n sp [] pf=⟨1,pf,zeroP,0,sp⟩:=by cases n<;>rfl
theorem splitM_in {m:Model} {q:Query} {b:Box} (h:(splitM m q b).c=true):0≤(splitM m q b).a∧(splitM m q b).a<5∧(b.get (splitM m q b).a).lo≤(splitM m q b).b∧(splitM m q b).b<(b.get (splitM m q b).a).hi:=by
 obtain⟨h0,h5,hi⟩:=split_in h
 have:=cuts_in _ hi
 exact⟨h0,h5,this.1,this.2⟩
theorem search_fails {m:Model} {q:Query}:∀(n:Nat) (sp:Int) (bs:List Box) (pf:List Step),(∀ b∈bs,b.empty=false)→(searchN m q n sp bs pf).kind=2 →
  ∃ b∈bs,InB b (searchN m q n sp bs pf).witness (searchN m q n sp bs pf).twin∧breaks m q (searchN m q n sp bs pf).witness (searchN m q n sp bs pf).twin=true
 | n,sp,[],pf,_,h=>by rw[searchN_nil] at h;cases h
 | 0,sp,b::bs,pf,_,h=>by cases h
 | n+1,sp,b::bs,pf,hb,h=>by
  rw[searchN_cons] at h ⊢
  split
  ·rename_i hc
   rw[if_pos hc] at h
   obtain⟨x,hx,h1⟩:=search_fails n _ bs _ (fun y hy=>hb y (by simp[hy])) h
   exact⟨x,by simp[hx],h1⟩
  ·rename_i hc
   rw[if_neg hc] at h
   split
   ·rename_i hco
    exact⟨b,by simp,low_in (hb b (by simp)),hco⟩
   ·rename_i hco
    rw[if_neg hco] at h
    split
    ·rename_i hs
     rw[if_pos hs] at h
     obtain⟨s0,s5,s1,s2⟩:=splitM_in hs
     have hne:=cut_some (hb b (by simp)) s0 s5 s1 s2
     have hsub:=cut_sub b s0 s5 (splitM m q b).b
     obtain⟨x,hx,h1,h2⟩:=search_fails n _ _ _ (fun y hy=>by
      simp only[List.mem_cons] at hy
      rcases hy with rfl|rfl|hy
      ·exact hne.1
      ·exact hne.2
      ·exact hb y (by simp[hy])) h
     simp only[List.mem_cons] at hx
     rcases hx with rfl|rfl|hx
     ·exact⟨b,by simp,hsub.1 _ _ h1,h2⟩
     ·exact⟨b,by simp,hsub.2 _ _ h1,h2⟩
     ·exact⟨x,by simp[hx],h1,h2⟩
    ·rename_i hs
     rw[if_neg hs] at h
     cases h
theorem searchM_eq {m:Model} {q:Query} (h:okQuery m q=true):searchM m q=searchN m q q.budget.toNat 0 [startOf q] []:=by unfold searchM;rw[if_pos h]
theorem hasB_of {b:Box} {p:Point} {t:Int} (h:InB b p t):hasB b p t=true:=hasB_iff.2 h
theorem fails_proven {m:Model} {q:Query} (h:okQuery m q=true) (hk:(searchM m q).kind=2):provesM m q (searchM m q)=true∧InB (startOf q) (searchM m q).witness (searchM m q).twin∧breaks m q (searchM m q).witness (searchM m q).twin=true:=by
 have hst:=okQuery_start h
 have he:=searchM_eq h
 rw[he] at hk ⊢
 obtain⟨b,hb,h1,h2⟩:=search_fails _ _ _ _ (by simpa using hst.2.2) hk
 simp only[List.mem_singleton] at hb
 subst hb
 refine⟨?_,h1,h2⟩
 unfold provesM
 rw[h,hk]
 simp only[Bool.true_and]
 rw[if_neg (by decide),hasB_of h1,h2]
 rfl
end Go.Co
/- CO: queries whose region, budget or ends are others. -/
namespace Go.Co
open Go.Am Go.Proofs
def withBudget (q:Query) (n:Int):Query:={ q with budget:=n }
theorem okQuery_budget {m:Model} {q:Query} (h:okQuery m q=true) {n:Int} (h0:0≤n) (h1:n≤65536):okQuery m (withBudget q n)=true:=by
 have hs:=okQuery_spec h
 unfold okQuery withBudget
 have h5:=hs.2.2.2.2.1
 have h6:okKind m q=true:=hs.2.2.2.2.2
 have h6':okKind m { q with budget:=n }=true:=h6
 rw[h6']
 simp only[h5,Bool.and_true,Bool.and_eq_true,decide_eq_true_eq]
 exact⟨⟨⟨hs.1,hs.2.1⟩,h0⟩,h1⟩
end Go.Co
/- CO: how deep proofs go; a search's proof is one; boxes that numbers cut. -/
namespace Go.Co
open Go.Am Go.Proofs
attribute [-simp] Go.Am.eff_gcall
def wS (s:Span):Nat:=(s.hi-s.lo).toNat
def wide (b:Box):Nat:=wS b.s0+wS b.s1+wS b.s2+wS b.s3+wS b.s4
theorem wide_set (b:Box) {k:Int} (h0:0≤k) (h5:k<5) (s:Span):wide (b.set k s)+wS (b.get k)=wide b+wS s:=by
 have hc:k=0∨k=1∨k=2∨k=3∨k=4:=by omega
 rcases hc with rfl|rfl|rfl|rfl|rfl<;>simp only[Box.set,Box.get,reduceIte,Int.reduceEq,wide]<;>omega
theorem wide_cut {b:Box} {k n:Int} (h0:0≤k) (h5:k<5) (h1:(b.get k).lo≤n) (h2:n<(b.get k).hi):wide (cutB b k n).1+1≤wide b∧wide (cutB b k n).2+1≤wide b:=by
 rw[cutB_halves h0 h5 h1 h2]
 have e1:=wide_set b h0 h5 ⟨(b.get k).lo,n⟩
 have e2:=wide_set b h0 h5 ⟨n+1,(b.get k).hi⟩
 unfold wS at e1 e2
 simp only at e1 e2 ⊢
 omega
def WI (W:Nat):List Box→Prop
 | []=>True
 | x::R=>R.length+wide x≤W∧WI W R
theorem WI.cut {W:Nat} {x:Box} {R:List Box} (h:WI W (x::R)) {k n:Int} (h0:0≤k) (h5:k<5) (h1:(x.get k).lo≤n) (h2:n<(x.get k).hi):WI W ((cutB x k n).1::(cutB x k n).2::R):=by
 obtain⟨g1,g2⟩:=h
 have hw:=wide_cut h0 h5 h1 h2
 exact⟨by rw[List.length_cons];omega,by omega,g2⟩
theorem wide_start (m:Model) (a:Ask):wide (startOf (queryOf m a))≤199:=by
 have k0:=rSpan_le m.dim a.spans 0
 have k1:=rSpan_le m.dim a.spans 1
 have k2:=rSpan_le m.dim a.spans 2
 have k3:=rSpan_le m.dim a.spans 3
 have e0:(startOf (queryOf m a)).s0=rSpan m.dim a.spans 0:=rfl
 have e1:(startOf (queryOf m a)).s1=rSpan m.dim a.spans 1:=rfl
 have e2:(startOf (queryOf m a)).s2=rSpan m.dim a.spans 2:=rfl
 have e3:(startOf (queryOf m a)).s3=rSpan m.dim a.spans 3:=rfl
 have e4:(startOf (queryOf m a)).s4.hi-(startOf (queryOf m a)).s4.lo≤22:=by
  unfold startOf
  simp only
  split
  ·rename_i hp
   have hf:=paired_feature hp
   rcases hf with hf|hf|hf|hf<;>rw[hf]<;>simp only[Box.get,reduceIte,Int.reduceEq]<;>simp only[queryOf,regionOf]<;>omega
  ·simp
 unfold wide wS
 rw[e0,e1,e2,e3]
 omega
theorem checkN_cut {m:Model} {q:Query} {x:Box} {bs:List Box} (hd:bs.length<200) {k n:Int} (h0:0≤k) (h5:k<5) (h1:(x.get k).lo≤n) (h2:n<(x.get k).hi) (l:List Step) :
  checkN m q (x::bs) (⟨false,k,n⟩::l)=checkN m q ((cutB x k n).1::(cutB x k n).2::bs) l:=by
 rw[checkN,if_neg (by omega)]
 simp only[Bool.false_eq_true,if_false]
 rw[if_pos ⟨h0,by omega⟩,if_pos ⟨h1,h2⟩]
theorem checkN_sum {m:Model} {q:Query} {x:Box} {bs:List Box} (hd:bs.length<200) (hc:closedM m q x=true) (l:List Step):checkN m q (x::bs) (sumS::l)=checkN m q bs l:=by
 rw[checkN,if_neg (by omega)]
 unfold sumS
 simp[hc]
theorem search_check {m:Model} {q:Query}:∀(n:Nat) (sp:Int) (bs:List Box) (pf:List Step),WI 199 bs→(searchN m q n sp bs pf).kind=1 →
  ∃ l,(searchN m q n sp bs pf).proof=pf++l∧l.length≤n∧checkN m q bs l=true
 | n,sp,[],pf,_,h=>by
  rw[searchN_nil]
  exact⟨[],by simp,by simp,rfl⟩
 | 0,sp,b::bs,pf,_,h=>by cases h
 | n+1,sp,b::bs,pf,hw,h=>by
  have hd:bs.length<200:=by have:=hw.1;omega
  rw[searchN_cons] at h ⊢
  split
  ·rename_i hc
   rw[if_pos hc] at h
   obtain⟨l,h1,h2,h3⟩:=search_check n _ bs _ hw.2 h
   refine⟨sumS::l,by rw[h1,List.append_assoc];rfl,by simp;omega, ?_⟩
   rw[checkN_sum hd hc]
   exact h3
  ·rename_i hc
   rw[if_neg hc] at h
   split
   ·rename_i hco;rw[if_pos hco] at h;cases h
   ·rename_i hco
    rw[if_neg hco] at h
    split
    ·rename_i hs
     rw[if_pos hs] at h
     obtain⟨s0,s5,s1,s2⟩:=splitM_in hs
     obtain⟨l,h1,h2,h3⟩:=search_check n _ _ _ (hw.cut s0 s5 s1 s2) h
     refine⟨⟨false,(splitM m q b).a,(splitM m q b).b⟩::l,by rw[h1,List.append_assoc];rfl,by simp;omega, ?_⟩
     rw[checkN_cut hd s0 s5 s1 s2]
     exact h3
    ·rename_i hs
     rw[if_neg hs] at h
     cases h
theorem holds_checked {m:Model} {q:Query} (h:okQuery m q=true) (hw:wide (startOf q)≤199) (hk:(searchM m q).kind=1):checkN m q [startOf q] (searchM m q).proof=true∧((searchM m q).proof.length:Int)≤q.budget:=by
 rw[searchM_eq h] at hk ⊢
 have hb:=okQuery_spec h
 obtain⟨l,h1,h2,h3⟩:=search_check _ _ _ _ (show WI 199 [startOf q] from ⟨by simp;omega,trivial⟩) hk
 rw[h1,List.nil_append]
 exact⟨h3,by omega⟩
theorem check_proven {m:Model} (hm:RM m) {q:Query} (h:okQuery m q=true) {l:List Step} (h1:checkN m q [startOf q] l=true) (h2:l.length≤65536) (p:Point) (t s:Int):provesM m q ⟨1,l,p,t,s⟩=true:=by
 unfold provesM
 simp only[if_true]
 rw[holds_check hm]
 unfold checkM
 rw[h,h1]
 simp[h2]
theorem proven_sound {m:Model} (hm:RM m) {q:Query} {v:Verdict} (hk:v.kind=1) (h:provesM m q v=true):okQuery m q=true∧∀ p t,InB (startOf q) p t→breaks m q p t=false:=by
 unfold provesM at h
 rw[if_pos hk,holds_check hm] at h
 unfold checkM at h
 simp only[Bool.and_eq_true] at h
 exact⟨h.1.1,fun p t hp=>check_sound hm _ _ h.2 _ (by simp) p t hp⟩
def cutK' (c:Cutting) (n:Nat):Int:=within (pick c.place n) 0 5
def stopS (c:Cutting) (x:Box) (cuts n:Nat):Prop:=cutK' c n=5∨20≤cuts∨c.place.length=0∨(x.get (cutK' c n)).hi≤(x.get (cutK' c n)).lo
instance (c:Cutting) (x:Box) (cuts n:Nat):Decidable (stopS c x cuts n):=by unfold stopS;exact inferInstance
end Go.Co
/- CO: a query is asked of a pruned model as of the whole one. -/
namespace Go.Co
open Go.Am Go.Proofs
theorem bound_same {l l':List Word} {d:Int} (h:RT l d) (h':RT l' d) {b:Box} (hb:b.empty=false) (hv:∀ p t,InB b p t→valueAt l' p=valueAt l p):(boundT l' b).a=(boundT l b).a∧(boundT l' b).b=(boundT l b).b:=by
 obtain⟨_,h2,⟨p,t,hp,h3⟩,⟨q,u,hq,h4⟩⟩:=boundT_spec h hb
 obtain⟨_,k2,⟨p',t',hp',k3⟩,⟨q',u',hq',k4⟩⟩:=boundT_spec h' hb
 have a1:=(k2 p t hp).1
 have a2:=(h2 p' t' hp').1
 have a3:=(k2 q u hq).2
 have a4:=(h2 q' u' hq').2
 rw[hv p t hp] at a1
 rw[← hv p' t' hp'] at a2
 rw[hv q u hq] at a3
 rw[← hv q' u' hq'] at a4
 omega
def In4 (r b:Box):Prop:=∀ p t,InB b p t→∃ u,InB r p u
theorem boundP_prune {m:Model} (hm:RM m) {r b:Box} (hb:b.empty=false) (hs:In4 r b) (c:Int):boundP (pruneM m r) c b=boundP m c b:=by
 have key:∀(l:List Tree) (n:Int×Int),(∀ t∈l,RT t.nodes m.dim)→(l.map (prF r)).foldl (boundF c b) n=l.foldl (boundF c b) n:=by
  intro l
  induction l with
  | nil=>intro n _;rfl
  | cons x l ih =>
   intro n h
   rw[List.map_cons,List.foldl_cons,List.foldl_cons,ih _ (fun t ht=>h t (by simp[ht]))]
   congr 1
   have hx:=h x (by simp)
   have hsame:=bound_same hx (pruneT_right hx r) hb (fun p t hp=>by
    obtain⟨u,hu⟩:=hs p t hp
    exact value_prune hx hu)
   unfold boundF prF
   simp only[hsame.1,hsame.2]
 exact key m.trees _ (fun t ht=>hm.rt ht)
theorem boundM_prune {m:Model} (hm:RM m) {r b:Box} (hs:In4 r b) (c:Int):boundM (pruneM m r) c b=boundM m c b:=by
 unfold boundM
 cases hb:b.empty
 ·rw[boundP_prune hm hb hs]
  rfl
 ·rw[if_pos (by simp),if_pos (by simp)]
theorem okQuery_prune (m:Model) (r:Box) (q:Query):okQuery (pruneM m r) q=okQuery m q:=rfl
theorem closed_prune {m:Model} (hm:RM m) {r:Box} {q:Query} {b:Box} (h1:In4 r b) (h2:In4 r (firstB q b)) (h3:In4 r (secondB q b)):closedM (pruneM m r) q b=closedM m q b:=by
 unfold closedM
 rw[okQuery_prune]
 cases hb:b.empty
 ·have e1:=boundM_prune hm h1 q.cls
  have e2:margin (pruneM m r) q.cls b=margin m q.cls b:=by
   unfold margin marD
   rw[boundP_prune hm hb h1,boundP_prune hm hb h1,boundP_prune hm hb h1]
   rfl
  have e3:changeM (pruneM m r) q b=changeM m q b:=by
   unfold changeM
   rw[boundM_prune hm h2,boundM_prune hm h3]
  rw[e1,e2,e3]
 ·rfl
theorem evalM_in {m:Model} (hm:RM m) {r:Box} {p:Point} (h:∃ u,InB r p u) (c:Int):evalM (pruneM m r) c p=evalM m c p:=by
 obtain⟨u,hu⟩:=h
 exact evalM_prune' hm hu c
theorem region_in {q:Query} {m:Model} (h:okQuery m q=true) {p:Point} (hp:∀ j:Int,0≤j→j<4→InS (q.region.get j) (p.get j)):∃ u,InB q.region p u:=by
 have hs:=(okQuery_spec h).2.2.2.2.1
 unfold okRegion okSpan at hs
 simp only[Bool.and_eq_true,Bool.not_eq_true'] at hs
 have he:=hs.2.1.1.2
 refine⟨q.region.s4.lo,inB_get.2 fun j j0 j4=>⟨hp j j0 j4, ?_⟩⟩
 unfold Span.empty at he
 rw[decide_eq_false_iff_not] at he
 unfold InS
 omega
theorem start_get4 (q:Query) {j:Int} (j0:0≤j) (j4:j<4):(startOf q).get j=q.region.get j:=by
 have hj:j=0∨j=1∨j=2∨j=3:=by omega
 rcases hj with rfl|rfl|rfl|rfl<;>rfl
theorem start_get_twin {q:Query} (hp:paired q=true):(startOf q).get 4=q.region.get q.feature:=by
 unfold startOf
 simp only[hp,if_true]
 rfl
theorem sub_in {q:Query} {m:Model} (h:okQuery m q=true) {b:Box} (hs:SubB b (startOf q)):In4 q.region b∧In4 q.region (firstB q b)∧In4 q.region (secondB q b):=by
 have key:∀(j:Int),0≤j→j<4→∀ n,InS (b.get j) n→InS (q.region.get j) n:=fun j j0 j4 n hn=>by
  have:=hs j j0 (by omega)
  rw[start_get4 q j0 j4] at this
  unfold InS at *
  omega
 refine⟨fun p t hp=>region_in h fun j j0 j4=>key j j0 j4 _ (inB_get.1 hp j j0 j4).1,fun p t hp=>region_in h fun j j0 j4=>?_,fun p t hp=>region_in h fun j j0 j4=>?_⟩
 ·have:=(inB_get.1 hp j j0 j4).1
  refine key j j0 j4 _ ?_
  unfold firstB at this
  split at this
  ·have hj:j=0∨j=1∨j=2∨j=3:=by omega
   rcases hj with rfl|rfl|rfl|rfl<;>exact this
  ·exact this
 ·have:=(inB_get.1 hp j j0 j4).1
  unfold secondB at this
  split at this
  ·rename_i hpd
   have hf:=paired_feature hpd
   have e:({ b.set q.feature b.s4 with s4:=(⟨0,0⟩:Span) }:Box).get j=(b.set q.feature b.s4).get j:=by
    have hj:j=0∨j=1∨j=2∨j=3:=by omega
    rcases hj with rfl|rfl|rfl|rfl<;>rfl
   rw[e,set_get_ite b _ (by omega) (by omega) j0 (by omega)] at this
   split at this
   ·rename_i hjf
    subst hjf
    have h4:=hs 4 (by omega) (by omega)
    rw[start_get_twin hpd] at h4
    have e4:b.get 4=b.s4:=rfl
    rw[e4] at h4
    unfold InS at *
    omega
   ·exact key j j0 j4 _ this
  ·exact key j j0 j4 _ this
theorem breaks_prune {m:Model} (hm:RM m) {q:Query} (h:okQuery m q=true) {p:Point} {t:Int} (hp:InB (startOf q) p t):breaks (pruneM m q.region) q p t=breaks m q p t:=by
 have h1:∃ u,InB q.region p u:=region_in h fun j j0 j4=>by
  have:=(inB_get.1 hp j j0 j4).1
  rwa [start_get4 q j0 j4] at this
 have h2:∃ u,InB q.region (secondOf q p t) u:=by
  refine region_in h fun j j0 j4=>?_
  have:=inB_get.1 hp j j0 j4
  rw[start_get4 q j0 j4] at this
  unfold secondOf
  split
  ·rename_i hpd
   have hf:=paired_feature hpd
   rw[point_set_get p t (by omega) (by omega) j0 j4]
   split
   ·rename_i hjf
    subst hjf
    have e:=start_get_twin hpd
    have e4:(startOf q).get 4=(startOf q).s4:=rfl
    rw[← e,e4]
    exact this.2
   ·exact this.1
  ·exact this.1
 have e1:=fun c=>evalM_in hm h1 c
 have e2:=fun c=>evalM_in hm h2 c
 unfold breaks
 rw[okQuery_prune]
 have e3:beaten (pruneM m q.region) q p=beaten m q p:=by
  unfold beaten
  simp only[e1]
  rfl
 rw[e1,e2,e3]
theorem subB_cut {b s:Box} (hs:SubB b s) {k n:Int} (h0:0≤k) (h5:k<5) (h1:(b.get k).lo≤n) (h2:n<(b.get k).hi):SubB (cutB b k n).1 s∧SubB (cutB b k n).2 s:=by
 have o1:ofS (b.get k).lo n=⟨(b.get k).lo,n⟩:=by unfold ofS;rw[if_neg (by omega)]
 have o2:ofS (n+1) (b.get k).hi=⟨n+1,(b.get k).hi⟩:=by unfold ofS;rw[if_neg (by omega)]
 have e:cutB b k n=(b.set k ⟨(b.get k).lo,n⟩,b.set k ⟨n+1,(b.get k).hi⟩):=by
  unfold cutB cutS
  rw[if_pos ⟨h0,h5⟩,if_neg (by omega),if_pos (by omega),o1,o2]
 rw[e]
 constructor
 ·intro i i0 i5
  have:=hs i i0 i5
  rw[set_get_ite b _ h0 h5 i0 i5]
  split
  ·subst i;exact⟨this.1,by show n≤_;omega⟩
  ·exact this
 ·intro i i0 i5
  have:=hs i i0 i5
  rw[set_get_ite b _ h0 h5 i0 i5]
  split
  ·subst i;exact⟨by show _≤n+1;omega,this.2⟩
  ·exact this
theorem checkN_prune {m:Model} (hm:RM m) {q:Query} (h:okQuery m q=true):∀(l:List Step) (bs:List Box),(∀ b∈bs,SubB b (startOf q))→checkN (pruneM m q.region) q bs l=checkN m q bs l
 | [],[],_=>rfl
 | [],_::_,_=>rfl
 | _::_,[],_=>rfl
 | s::l,b::bs,hs=>by
  have hb:=sub_in h (hs b (by simp))
  have hc:=closed_prune hm hb.1 hb.2.1 hb.2.2
  have ih1:=checkN_prune hm h l bs (fun x hx=>hs x (by simp[hx]))
  simp only[checkN,hc,ih1]
  split
  ·rfl
  ·split
   ·rfl
   ·split
    ·rename_i hpl
     split
     ·rename_i hcut
      have h2:=subB_cut (hs b (by simp)) (by omega) (by omega) hcut.1 hcut.2
      exact checkN_prune hm h l _ (fun x hx=>by
       simp only[List.mem_cons] at hx
       rcases hx with rfl|rfl|hx
       ·exact h2.1
       ·exact h2.2
       ·exact hs x (by simp[hx]))
     ·rfl
    ·rfl
theorem subB_refl (b:Box):SubB b b:=fun i _ _=>⟨Int.le_refl _,Int.le_refl _⟩
theorem proves_prune {m:Model} (hm:RM m) {q:Query} (h:okQuery m q=true) (v:Verdict):provesM (pruneM m q.region) q v=provesM m q v:=by
 have hr:=rm_prune hm q.region
 have hh:holdsV (pruneM m q.region) q v.proof=holdsV m q v.proof:=by
  have h1:=holds_check hr (q:=q) v.proof
  have h2:=holds_check hm (q:=q) v.proof
  unfold checkM at h1 h2
  rw[okQuery_prune,h] at h1
  rw[h] at h2
  simp only[Bool.true_and] at h1 h2
  rw[h1,h2,checkN_prune hm h v.proof [startOf q] (fun b hb=>by simp at hb;subst hb;exact subB_refl _)]
 unfold provesM
 rw[okQuery_prune,hh]
 by_cases hw:hasB (startOf q) v.witness v.twin=true
 ·rw[breaks_prune hm h (hasB_iff.1 hw)]
 ·have:hasB (startOf q) v.witness v.twin=false:=by simpa using hw
  rw[this]
  rfl
theorem search_proven {m:Model} (hm:RM m) {q:Query} (h:okQuery m q=true) (hw:wide (startOf q)≤199) (hk:(searchM m q).kind=1∨(searchM m q).kind=2):provesM m q (searchM m q)=true:=by
 rcases hk with hk|hk
 ·have h1:=holds_checked h hw hk
  have h2:=check_proven hm h h1.1 (by have:=h1.2;have:=(okQuery_spec h).2.2.2.1;omega) (searchM m q).witness (searchM m q).twin (searchM m q).spent
  unfold provesM at h2 ⊢
  rw[hk]
  exact h2
 ·exact (fails_proven h hk).1
theorem searchN_kind (m:Model) (q:Query):∀(n:Nat) (sp:Int) (bs:List Box) (pf:List Step),(searchN m q n sp bs pf).kind=1∨(searchN m q n sp bs pf).kind=2∨(searchN m q n sp bs pf).kind=3
 | n,sp,[],pf=>by rw[searchN_nil];simp
 | 0,sp,_::_,pf=>by unfold searchN;simp
 | n+1,sp,b::bs,pf=>by
  rw[searchN_cons]
  split
  ·exact searchN_kind m q n _ _ _
  ·split
   ·simp
   ·split
    ·exact searchN_kind m q n _ _ _
    ·simp
theorem search_kind {m:Model} {q:Query} (h:okQuery m q=true) (h3:(searchM m q).kind≠3):(searchM m q).kind=1∨(searchM m q).kind=2:=by
 rw[searchM_eq h] at h3 ⊢
 rcases searchN_kind m q q.budget.toNat 0 [startOf q] [] with e|e|e
 ·exact .inl e
 ·exact .inr e
 ·exact absurd e h3
theorem search_sound {m:Model} (hm:RM m) {q:Query} (h:okQuery m q=true) (hw:wide (startOf q)≤199) (hk:(searchM m q).kind=1):∀ p t,InB (startOf q) p t→breaks m q p t=false :=
 (proven_sound hm hk (search_proven hm h hw (.inl hk))).2
theorem search_prune {m:Model} (hm:RM m) {q:Query} (h:okQuery m q=true) (hw:wide (startOf q)≤199) (h1:(searchM m q).kind≠3) (h2:(searchM (pruneM m q.region) q).kind≠3) :
  (searchM m q).kind=(searchM (pruneM m q.region) q).kind∧provesM m q (searchM (pruneM m q.region) q)=true∧provesM (pruneM m q.region) q (searchM m q)=true:=by
 have hr:=rm_prune hm q.region
 have hq:okQuery (pruneM m q.region) q=true:=h
 have k1:=search_kind h h1
 have k2:=search_kind hq h2
 have p1:=search_proven hm h hw k1
 have p2:=search_proven hr hq hw k2
 refine⟨?_,by rw[← proves_prune hm h];exact p2,by rw[proves_prune hm h];exact p1⟩
 rcases k1 with k1|k1<;>rcases k2 with k2|k2
 ·rw[k1,k2]
 ·exfalso
  obtain⟨_,f1,f2⟩:=fails_proven hq k2
  rw[breaks_prune hm h f1,search_sound hm h hw k1 _ _ f1] at f2
  cases f2
 ·exfalso
  obtain⟨_,f1,f2⟩:=fails_proven h k1
  rw[← breaks_prune hm h f1,search_sound hr hq hw k2 _ _ f1] at f2
  cases f2
 ·rw[k1,k2]
end Go.Co
/- CO: a search under way. -/
namespace Go.Co
open Go.Am
structure Srch where
 m:Model
 q:Query
 left:List Box
 proof:List Step
 v:Verdict
 spent:Int
def Srch.cells (x:Srch):List AV:=Row.enc x.m++(Row.enc x.q++([.lst x.left.length (encL x.left),.lst x.proof.length (encL x.proof)]++(Row.enc x.v++[.int .i64 x.spent])))
def decTwo:List AV→Option (List Box×List Step)
 | [.lst n w,.lst k z]=>(decL Box n w).bind fun l=>(decL Step k z).map fun p=>(l,p)
 | _=>none
def decOne:List AV→Option Int
 | [.int .i64 n]=>some n
 | _=>none
theorem decTwo_some {xs:List AV} {p:List Box×List Step} (h:decTwo xs=some p):xs=[.lst p.1.length (encL p.1),.lst p.2.length (encL p.2)]:=by
 unfold decTwo at h
 split at h
 ·rw[Option.bind_eq_some_iff] at h
  obtain⟨l,h1,h⟩:=h
  rw[Option.map_eq_some_iff] at h
  obtain⟨k,h2,rfl⟩:=h
  obtain⟨rfl,rfl⟩:=decL_some _ _ _ h1
  obtain⟨rfl,rfl⟩:=decL_some _ _ _ h2
  rfl
 ·cases h
theorem decOne_some {xs:List AV} {n:Int} (h:decOne xs=some n):xs=[.int .i64 n]:=by
 unfold decOne at h
 split at h
 ·cases h;rfl
 ·cases h
instance:Row Srch where
 sz:=34
 enc:=Srch.cells
 dec xs:=(Row.dec (xs.take 6):Option Model).bind fun m=>(Row.dec ((xs.drop 6).take 17):Option Query).bind fun q=>(decTwo (((xs.drop 6).drop 17).take 2)).bind fun p=>(Row.dec ((((xs.drop 6).drop 17).drop 2).take 8):Option Verdict).bind fun v=>(decOne ((((xs.drop 6).drop 17).drop 2).drop 8)).map fun n=>⟨m,q,p.1,p.2,v,n⟩
 pos:=by decide
 len _:=rfl
 dec_enc x:=by
  have h1:x.cells.take 6=Row.enc x.m:=rfl
  have h2:(x.cells.drop 6).take 17=Row.enc x.q:=rfl
  have h3:((x.cells.drop 6).drop 17).take 2=[.lst x.left.length (encL x.left),.lst x.proof.length (encL x.proof)]:=rfl
  have h4:(((x.cells.drop 6).drop 17).drop 2).take 8=Row.enc x.v:=rfl
  have h5:(((x.cells.drop 6).drop 17).drop 2).drop 8=[.int .i64 x.spent]:=rfl
  rw[h1,h2,h3,h4,h5,Row.dec_enc,Row.dec_enc,Row.dec_enc]
  simp only[Option.bind_some,decTwo,decL_encL,Option.map_some,decOne]
 enc_dec xs a h:=by
  rw[Option.bind_eq_some_iff] at h
  obtain⟨m,h1,h⟩:=h
  rw[Option.bind_eq_some_iff] at h
  obtain⟨q,h2,h⟩:=h
  rw[Option.bind_eq_some_iff] at h
  obtain⟨p,h3,h⟩:=h
  rw[Option.bind_eq_some_iff] at h
  obtain⟨v,h4,h⟩:=h
  rw[Option.map_eq_some_iff] at h
  obtain⟨n,h5,rfl⟩:=h
  have e1:=Row.enc_dec _ _ h1
  have e2:=Row.enc_dec _ _ h2
  have e3:=decTwo_some h3
  have e4:=Row.enc_dec _ _ h4
  have e5:=decOne_some h5
  unfold Srch.cells
  simp only
  rw[← e1,← e2,← e3,← e4,← e5]
  simp only[List.take_append_drop]
theorem enc_ref_Srch (x:Srch):Arg.enc (⟨x⟩:Ref Srch)=.ipt 0 x.cells:=rfl
theorem dec_ref_Srch (x:Srch):(Arg.dec (.ipt 0 x.cells):Option (Ref Srch))=some ⟨x⟩:=Arg.dec_enc (⟨x⟩:Ref Srch)
theorem encL_inj {α:Type} [Row α] {l l':List α} (hl:l.length=l'.length) (h:encL l=encL l'):l=l':=by
 have h1:=decL_encL l
 rw[hl,h,decL_encL] at h1
 cases h1
 rfl
end Go.Co
/- CO: the search: what is kept of it, a step of it. -/
set_option maxHeartbeats 16000000
set_option maxRecDepth 100000
namespace Go.Co
open Go.Am Go.Proofs
attribute [-simp] Go.Am.eff_gcall Go.Am.eff_gcal2
def c69_9:ACode:=.seq (.ops [⟨some 2,.nil0 2 3,none,[]⟩] [0]) (.seq (.seq (.nilq (.t 0) 3 4 [0,4]) (.cond (.t 4) (.seq (.ops [⟨some 2,.nil0 2 3,none,[]⟩] [2]) .ret) .skip)) (.seq (.ops [⟨some 5,.mkrow 5 0 3 [.bool false,.int .i64 0,.int .i64 0] [],none,[]⟩,⟨some 6,.mv (.t 0),none,[]⟩,⟨some 7,.app 2 [5] (.t 5) (.t 6) 3,none,[5]⟩,⟨some 2,.mv (.t 7),none,[]⟩] [2]) .ret))
theorem r69_9:type_of% (rr c69_9.eq_1):=rr rfl
def a69:AFun:=⟨1,8,c69_9,[.t 2]⟩
attribute [simp] r69_9
theorem m69:mFun Tryz.prog Tryz.f69 a69=true:=by decide +kernel
def c34_15:ACode:=.seq (.ops [⟨some 2,.box (.t 0) 6,none,[]⟩,⟨some 3,.box (.t 1) 17,none,[]⟩,⟨some 4,.mv (.c (.nilv false)),none,[]⟩] [2,3]) (.seq (.ops [⟨some 6,.load 6 true (.t 2),none,[2]⟩,⟨some 7,.load 17 true (.t 3),none,[3]⟩,⟨some 8,.build [.int .i64 0,.int .i64 0,.int .i64 0,.int .i64 0,.int .i64 0,.nils,.int .i64 0,.int .i64 0,.int .i64 0,.int .i64 0,.int .i64 0,.int .i64 0,.int .i64 0,.int .i64 0,.int .i64 0,.int .i64 0,.int .i64 0,.int .i64 0,.int .i64 0,.int .i64 0,.int .i64 0,.bool false,.int .i64 0,.nils,.nils,.int .i64 0,.nils,.int .i64 0,.int .i64 0,.int .i64 0,.int .i64 0,.int .i64 0,.int .i64 0,.int .i64 0] [(0,6,.t 6),(6,17,.t 7)],none,[]⟩,⟨some 9,.box (.t 8) 34,none,[]⟩,⟨some 5,.mv (.t 9),none,[]⟩] [2,3,5]) (.seq (.seq (.ops [⟨some 10,.load 6 true (.t 2),none,[2]⟩,⟨some 11,.load 17 true (.t 3),none,[3]⟩,⟨some 12,.call 40 [.t 10,.t 11],none,[]⟩,⟨some 13,.un .not (.t 12),none,[]⟩] [3,5,13]) (.cond (.t 13) (.seq (.ops [⟨some 14,.mv (.t 5),none,[]⟩,⟨some 15,.chk (.t 14),none,[9]⟩,⟨some 16,.fad (.t 15) 25,none,[9]⟩,⟨some 17,.fad (.t 16) 0,none,[9]⟩,⟨none,.store (.t 17) 1 (.c (.int .i64 4)),none,[9]⟩] [5]) (.seq (.ops [⟨some 18,.mv (.t 5),none,[]⟩,⟨some 4,.mv (.t 18),none,[]⟩] [4]) .ret)) .skip)) (.seq (.ops [⟨some 19,.mv (.t 5),none,[]⟩,⟨some 20,.load 17 true (.t 3),none,[3]⟩,⟨some 21,.call 15 [.t 20],none,[]⟩,⟨some 22,.mkrow 10523 1 10 [.int .i64 0,.int .i64 0,.int .i64 0,.int .i64 0,.int .i64 0,.int .i64 0,.int .i64 0,.int .i64 0,.int .i64 0,.int .i64 0] [(0,10,.t 21)],none,[]⟩,⟨some 23,.chk (.t 19),none,[9]⟩,⟨some 24,.fad (.t 23) 23,none,[9]⟩,⟨none,.store (.t 24) 1 (.t 22),none,[9]⟩] [5]) (.seq (.ops [⟨some 25,.mv (.t 5),none,[]⟩,⟨some 4,.mv (.t 25),none,[]⟩] [4]) .ret))))
theorem r34_15:type_of% (rr c34_15.eq_1):=rr rfl
def a34:AFun:=⟨2,26,c34_15,[.t 4]⟩
attribute [simp] r34_15
theorem m34:mFun Tryz.prog Tryz.f34 a34=true:=by decide +kernel
def c35_56:ACode:=.seq (.ops [⟨some 2,.mv (.c (.bool false)),none,[]⟩] [0]) (.seq (.seq (.ops [⟨some 12,.mv (.t 0),none,[]⟩,⟨some 13,.chk (.t 12),none,[0]⟩,⟨some 14,.fad (.t 13) 25,none,[0]⟩,⟨some 15,.fad (.t 14) 0,none,[0]⟩,⟨some 16,.load 1 false (.t 15),none,[0]⟩,⟨some 17,.bin .neq (.t 16) (.c (.int .i64 0)),none,[]⟩,⟨some 18,.mv (.t 17),none,[]⟩,⟨some 19,.mv (.t 0),some (18,false),[]⟩,⟨some 20,.chk (.t 19),some (18,false),[0]⟩,⟨some 21,.fad (.t 20) 33,some (18,false),[0]⟩,⟨some 22,.load 1 false (.t 21),some (18,false),[0]⟩,⟨some 23,.mv (.t 0),some (18,false),[]⟩,⟨some 24,.chk (.t 23),some (18,false),[0]⟩,⟨some 25,.fad (.t 24) 6,some (18,false),[0]⟩,⟨some 26,.fad (.t 25) 16,some (18,false),[0]⟩,⟨some 27,.load 1 false (.t 26),some (18,false),[0]⟩,⟨some 28,.bin .geq (.t 22) (.t 27),some (18,false),[]⟩,⟨some 29,.pick (.t 18) (.c (.bool true)) (.t 28),none,[]⟩] [0,29]) (.cond (.t 29) (.seq (.ops [⟨some 2,.mv (.c (.bool false)),none,[]⟩] [2]) .ret) .skip)) (.seq (.ops [⟨some 30,.mv (.t 0),none,[]⟩,⟨some 31,.chk (.t 30),none,[0]⟩,⟨some 32,.fad (.t 31) 33,none,[0]⟩,⟨some 33,.load 1 false (.t 32),none,[0]⟩,⟨some 34,.bin .add (.t 33) (.c (.int .i64 1)),none,[]⟩,⟨some 35,.chk (.t 30),none,[0]⟩,⟨some 36,.fad (.t 35) 33,none,[0]⟩,⟨none,.store (.t 36) 1 (.t 34),none,[0]⟩] [0]) (.seq (.ops [⟨some 37,.mv (.t 0),none,[]⟩,⟨some 38,.chk (.t 37),none,[0]⟩,⟨some 39,.fad (.t 38) 23,none,[0]⟩,⟨some 40,.load 1 false (.t 39),none,[0]⟩,⟨some 41,.len (.t 40),none,[1,2,10023,10024]⟩,⟨some 42,.bin .sub (.t 41) (.c (.int .i64 1)),none,[]⟩,⟨some 3,.mv (.t 42),none,[]⟩] [0,3]) (.seq (.ops [⟨some 43,.mv (.t 0),none,[]⟩,⟨some 44,.chk (.t 43),none,[0]⟩,⟨some 45,.fad (.t 44) 23,none,[0]⟩,⟨some 46,.load 1 false (.t 45),none,[0]⟩,⟨some 47,.mv (.t 3),none,[]⟩,⟨some 48,.ias (.t 46) (.t 47) 10,none,[1,2,10023,10024]⟩,⟨some 49,.load 10 true (.t 48),none,[1,2,10023,10024]⟩,⟨some 4,.alloc [.int .i64 0,.int .i64 0,.int .i64 0,.int .i64 0,.int .i64 0,.int .i64 0,.int .i64 0,.int .i64 0,.int .i64 0,.int .i64 0],none,[]⟩,⟨none,.store (.t 4) 10 (.t 49),none,[4]⟩] [0,3,4]) (.seq (.ops [⟨some 50,.mv (.t 0),none,[]⟩,⟨some 51,.mv (.t 0),none,[]⟩,⟨some 52,.chk (.t 51),none,[0]⟩,⟨some 53,.fad (.t 52) 23,none,[0]⟩,⟨some 54,.load 1 false (.t 53),none,[0]⟩,⟨some 55,.mv (.t 3),none,[]⟩,⟨some 56,.sl (.t 54) none (some (.t 55)) 10,none,[1,2,10023,10024]⟩,⟨some 57,.chk (.t 50),none,[0]⟩,⟨some 58,.fad (.t 57) 23,none,[0]⟩,⟨none,.store (.t 58) 1 (.t 56),none,[0]⟩] [0,4]) (.seq (.seq (.ops [⟨some 59,.mv (.t 0),none,[]⟩,⟨some 60,.chk (.t 59),none,[0]⟩,⟨some 61,.fad (.t 60) 0,none,[0]⟩,⟨some 62,.load 6 true (.t 61),none,[0]⟩,⟨some 63,.mv (.t 0),none,[]⟩,⟨some 64,.chk (.t 63),none,[0]⟩,⟨some 65,.fad (.t 64) 6,none,[0]⟩,⟨some 66,.load 17 true (.t 65),none,[0]⟩,⟨some 67,.load 10 true (.t 4),none,[4]⟩,⟨some 68,.call 65 [.t 62,.t 66,.t 67],none,[1,2,10023,10024]⟩] [0,4,68]) (.cond (.t 68) (.seq (.ops [⟨some 69,.mv (.t 0),none,[]⟩,⟨some 70,.mv (.t 0),none,[]⟩,⟨some 71,.chk (.t 70),none,[0]⟩,⟨some 72,.fad (.t 71) 24,none,[0]⟩,⟨some 73,.load 1 false (.t 72),none,[0]⟩,⟨some 74,.build [.bool false,.int .i64 0,.int .i64 0] [(0,1,.c (.bool true))],none,[]⟩,⟨some 75,.mkrow 75 1 3 [.bool false,.int .i64 0,.int .i64 0] [(0,3,.t 74)],none,[]⟩,⟨some 76,.app 10024 [1,2,10023,10024] (.t 73) (.t 75) 3,none,[1,2,75,10023,10024]⟩,⟨some 77,.chk (.t 69),none,[0]⟩,⟨some 78,.fad (.t 77) 24,none,[0]⟩,⟨none,.store (.t 78) 1 (.t 76),none,[0]⟩] [0]) (.seq (.seq (.ops [⟨some 79,.mv (.t 0),none,[]⟩,⟨some 80,.chk (.t 79),none,[0]⟩,⟨some 81,.fad (.t 80) 23,none,[0]⟩,⟨some 82,.load 1 false (.t 81),none,[0]⟩,⟨some 83,.len (.t 82),none,[1,2,10023,10024]⟩,⟨some 84,.bin .eql (.t 83) (.c (.int .i64 0)),none,[]⟩] [0,84]) (.cond (.t 84) (.ops [⟨some 85,.mv (.t 0),none,[]⟩,⟨some 86,.mv (.t 0),none,[]⟩,⟨some 87,.chk (.t 86),none,[0]⟩,⟨some 88,.fad (.t 87) 24,none,[0]⟩,⟨some 89,.load 1 false (.t 88),none,[0]⟩,⟨some 90,.build [.int .i64 0,.nils,.int .i64 0,.int .i64 0,.int .i64 0,.int .i64 0,.int .i64 0,.int .i64 0] [(0,1,.c (.int .i64 1)),(1,1,.t 89)],none,[]⟩,⟨some 91,.chk (.t 85),none,[0]⟩,⟨some 92,.fad (.t 91) 25,none,[0]⟩,⟨none,.store (.t 92) 8 (.t 90),none,[0]⟩] []) .skip)) (.seq (.ops [⟨some 2,.mv (.c (.bool true)),none,[]⟩] [2]) .ret))) .skip)) (.seq (.seq (.ops [⟨some 94,.load 10 true (.t 4),none,[4]⟩,⟨some 95,.call 66 [.t 94],none,[]⟩,⟨some 93,.mv (.t 95),none,[]⟩,⟨some 96,.ext (.t 93) 0,none,[]⟩,⟨some 97,.ext (.t 93) 1,none,[]⟩,⟨some 5,.alloc [.int .i64 0,.int .i64 0,.int .i64 0,.int .i64 0],none,[]⟩,⟨none,.store (.t 5) 4 (.t 96),none,[5]⟩,⟨some 6,.mv (.t 97),none,[]⟩] [0,4,5,6]) (.seq (.ops [⟨some 98,.mv (.t 0),none,[]⟩,⟨some 99,.chk (.t 98),none,[0]⟩,⟨some 100,.fad (.t 99) 0,none,[0]⟩,⟨some 101,.load 6 true (.t 100),none,[0]⟩,⟨some 102,.mv (.t 0),none,[]⟩,⟨some 103,.chk (.t 102),none,[0]⟩,⟨some 104,.fad (.t 103) 6,none,[0]⟩,⟨some 105,.load 17 true (.t 104),none,[0]⟩,⟨some 106,.load 4 true (.t 5),none,[5]⟩,⟨some 107,.mv (.t 6),none,[]⟩,⟨some 108,.call 19 [.t 101,.t 105,.t 106,.t 107],none,[1,2,10023,10024]⟩] [0,4,5,6,108]) (.cond (.t 108) (.seq (.ops [⟨some 109,.mv (.t 0),none,[]⟩,⟨some 110,.load 4 true (.t 5),none,[5]⟩,⟨some 111,.mv (.t 6),none,[]⟩,⟨some 112,.build [.int .i64 0,.nils,.int .i64 0,.int .i64 0,.int .i64 0,.int .i64 0,.int .i64 0,.int .i64 0] [(0,1,.c (.int .i64 2)),(2,4,.t 110),(6,1,.t 111)],none,[]⟩,⟨some 113,.chk (.t 109),none,[0]⟩,⟨some 114,.fad (.t 113) 25,none,[0]⟩,⟨none,.store (.t 114) 8 (.t 112),none,[0]⟩] []) (.seq (.ops [⟨some 2,.mv (.c (.bool true)),none,[]⟩] [2]) .ret)) .skip))) (.seq (.ops [⟨some 116,.mv (.t 0),none,[]⟩,⟨some 117,.chk (.t 116),none,[0]⟩,⟨some 118,.fad (.t 117) 0,none,[0]⟩,⟨some 119,.load 6 true (.t 118),none,[0]⟩,⟨some 120,.mv (.t 0),none,[]⟩,⟨some 121,.chk (.t 120),none,[0]⟩,⟨some 122,.fad (.t 121) 6,none,[0]⟩,⟨some 123,.load 17 true (.t 122),none,[0]⟩,⟨some 124,.load 10 true (.t 4),none,[4]⟩,⟨some 125,.call 67 [.t 119,.t 123,.t 124],none,[1,2,10023,10024]⟩,⟨some 115,.mv (.t 125),none,[]⟩,⟨some 126,.ext (.t 115) 0,none,[]⟩,⟨some 127,.ext (.t 115) 1,none,[]⟩,⟨some 128,.ext (.t 115) 2,none,[]⟩,⟨some 7,.mv (.t 126),none,[]⟩,⟨some 8,.mv (.t 127),none,[]⟩,⟨some 9,.mv (.t 128),none,[]⟩] [0,4,7,8,9]) (.seq (.seq (.ops [⟨some 129,.mv (.t 9),none,[]⟩,⟨some 130,.un .not (.t 129),none,[]⟩] [0,4,7,8,130]) (.cond (.t 130) (.seq (.ops [⟨some 131,.mv (.t 0),none,[]⟩,⟨some 132,.build [.int .i64 0,.nils,.int .i64 0,.int .i64 0,.int .i64 0,.int .i64 0,.int .i64 0,.int .i64 0] [(0,1,.c (.int .i64 3))],none,[]⟩,⟨some 133,.chk (.t 131),none,[0]⟩,⟨some 134,.fad (.t 133) 25,none,[0]⟩,⟨none,.store (.t 134) 8 (.t 132),none,[0]⟩] []) (.seq (.ops [⟨some 2,.mv (.c (.bool true)),none,[]⟩] [2]) .ret)) .skip)) (.seq (.ops [⟨some 136,.load 10 true (.t 4),none,[4]⟩,⟨some 137,.mv (.t 7),none,[]⟩,⟨some 138,.mv (.t 8),none,[]⟩,⟨some 139,.call 68 [.t 136,.t 137,.t 138],none,[]⟩,⟨some 135,.mv (.t 139),none,[]⟩,⟨some 140,.ext (.t 135) 0,none,[]⟩,⟨some 141,.ext (.t 135) 1,none,[]⟩,⟨some 10,.alloc [.int .i64 0,.int .i64 0,.int .i64 0,.int .i64 0,.int .i64 0,.int .i64 0,.int .i64 0,.int .i64 0,.int .i64 0,.int .i64 0],none,[]⟩,⟨some 11,.alloc [.int .i64 0,.int .i64 0,.int .i64 0,.int .i64 0,.int .i64 0,.int .i64 0,.int .i64 0,.int .i64 0,.int .i64 0,.int .i64 0],none,[]⟩,⟨none,.store (.t 10) 10 (.t 140),none,[10]⟩,⟨none,.store (.t 11) 10 (.t 141),none,[11]⟩] [0,7,8,10,11]) (.seq (.ops [⟨some 142,.mv (.t 0),none,[]⟩,⟨some 143,.mv (.t 0),none,[]⟩,⟨some 144,.chk (.t 143),none,[0]⟩,⟨some 145,.fad (.t 144) 23,none,[0]⟩,⟨some 146,.load 1 false (.t 145),none,[0]⟩,⟨some 147,.load 10 true (.t 11),none,[11]⟩,⟨some 148,.load 10 true (.t 10),none,[10]⟩,⟨some 149,.mkrow 149 2 10 [.int .i64 0,.int .i64 0,.int .i64 0,.int .i64 0,.int .i64 0,.int .i64 0,.int .i64 0,.int .i64 0,.int .i64 0,.int .i64 0] [(0,10,.t 147),(10,10,.t 148)],none,[]⟩,⟨some 150,.app 10023 [1,2,10023,10024] (.t 146) (.t 149) 10,none,[1,2,149,10023,10024]⟩,⟨some 151,.chk (.t 142),none,[0]⟩,⟨some 152,.fad (.t 151) 23,none,[0]⟩,⟨none,.store (.t 152) 1 (.t 150),none,[0]⟩] [0,7,8]) (.seq (.ops [⟨some 153,.mv (.t 0),none,[]⟩,⟨some 154,.mv (.t 0),none,[]⟩,⟨some 155,.chk (.t 154),none,[0]⟩,⟨some 156,.fad (.t 155) 24,none,[0]⟩,⟨some 157,.load 1 false (.t 156),none,[0]⟩,⟨some 158,.mv (.t 7),none,[]⟩,⟨some 159,.mv (.t 8),none,[]⟩,⟨some 160,.build [.bool false,.int .i64 0,.int .i64 0] [(1,1,.t 158),(2,1,.t 159)],none,[]⟩,⟨some 161,.mkrow 161 1 3 [.bool false,.int .i64 0,.int .i64 0] [(0,3,.t 160)],none,[]⟩,⟨some 162,.app 10024 [1,2,10023,10024] (.t 157) (.t 161) 3,none,[1,2,161,10023,10024]⟩,⟨some 163,.chk (.t 153),none,[0]⟩,⟨some 164,.fad (.t 163) 24,none,[0]⟩,⟨none,.store (.t 164) 1 (.t 162),none,[0]⟩] []) (.seq (.ops [⟨some 2,.mv (.c (.bool true)),none,[]⟩] [2]) .ret)))))))))))))
theorem r35_56:type_of% (rr c35_56.eq_1):=rr rfl
def a35:AFun:=⟨1,165,c35_56,[.t 2]⟩
attribute [simp] r35_56
theorem m35:mFun Tryz.prog Tryz.f35 a35=true:=by decide +kernel
def c36_14:ACode:=.seq (.ops [⟨some 2,.alloc [.int .i64 0,.nils,.int .i64 0,.int .i64 0,.int .i64 0,.int .i64 0,.int .i64 0,.int .i64 0],none,[]⟩] [0,2]) (.seq (.ops [⟨some 4,.mv (.t 0),none,[]⟩,⟨some 5,.chk (.t 4),none,[]⟩,⟨some 6,.fad (.t 5) 25,none,[]⟩,⟨some 7,.load 8 true (.t 6),none,[]⟩,⟨some 3,.alloc [.int .i64 0,.nils,.int .i64 0,.int .i64 0,.int .i64 0,.int .i64 0,.int .i64 0,.int .i64 0],none,[]⟩,⟨none,.store (.t 3) 8 (.t 7),none,[3]⟩] [0,2,3]) (.seq (.seq (.ops [⟨some 8,.fad (.t 3) 0,none,[3]⟩,⟨some 9,.load 1 false (.t 8),none,[3]⟩,⟨some 10,.bin .eql (.t 9) (.c (.int .i64 0)),none,[]⟩] [0,2,3,10]) (.cond (.t 10) (.ops [⟨some 11,.fad (.t 3) 0,none,[3]⟩,⟨none,.store (.t 11) 1 (.c (.int .i64 3)),none,[3]⟩] [0,2,3]) .skip)) (.seq (.ops [⟨some 12,.fad (.t 3) 1,none,[3]⟩,⟨some 13,.load 1 false (.t 12),none,[3]⟩,⟨some 14,.call 69 [.t 13],none,[]⟩,⟨some 15,.fad (.t 3) 1,none,[3]⟩,⟨none,.store (.t 15) 1 (.t 14),none,[3]⟩] [0,2,3]) (.seq (.ops [⟨some 16,.mv (.t 0),none,[]⟩,⟨some 17,.chk (.t 16),none,[]⟩,⟨some 18,.fad (.t 17) 33,none,[]⟩,⟨some 19,.load 1 false (.t 18),none,[]⟩,⟨some 20,.fad (.t 3) 7,none,[3]⟩,⟨none,.store (.t 20) 1 (.t 19),none,[3]⟩] [2,3]) (.seq (.ops [⟨some 21,.load 8 true (.t 3),none,[3]⟩,⟨none,.store (.t 2) 8 (.t 21),none,[2]⟩] [2]) .ret)))))
theorem r36_14:type_of% (rr c36_14.eq_1):=rr rfl
def a36:AFun:=⟨1,22,c36_14,[.cell 2 8 true]⟩
attribute [simp] r36_14
theorem m36:mFun Tryz.prog Tryz.f36 a36=true:=by decide +kernel
def c14_6:ACode:=.seq (.seq (.ops [⟨some 9,.mv (.t 5),none,[]⟩,⟨some 10,.gcal2 35 [.t 9] [20001,20002,20003] 20002 20003,none,[20001,20002,20003]⟩] [4,5,10]) (.cond (.t 10) .skip (.exit 0))) (.block 1 .skip)
theorem r14_6:type_of% (rr c14_6.eq_1):=rr rfl
def c14_11:ACode:=.seq (.ops [⟨some 11,.mv (.t 5),none,[]⟩,⟨some 12,.call 36 [.t 11],none,[20001,20002,20003]⟩,⟨none,.store (.t 4) 8 (.t 12),none,[4]⟩] [4]) .ret
theorem r14_11:type_of% (rr c14_11.eq_1):=rr rfl
def c14_14:ACode:=.seq (.ops [⟨some 2,.box (.t 0) 6,none,[]⟩,⟨some 3,.box (.t 1) 17,none,[]⟩,⟨some 4,.alloc [.int .i64 0,.nils,.int .i64 0,.int .i64 0,.int .i64 0,.int .i64 0,.int .i64 0,.int .i64 0],none,[]⟩] [2,3,4]) (.seq (.ops [⟨some 6,.load 6 true (.t 2),none,[2]⟩,⟨some 7,.load 17 true (.t 3),none,[3]⟩,⟨some 8,.gcal2 34 [.t 6,.t 7] [] 20001 20002,none,[]⟩,⟨some 5,.mv (.t 8),none,[]⟩] [4,5]) (.seq (.block 0 (.loop (.keep [4,5] [4,20001,20002,20003] c14_6))) c14_11))
theorem r14_14:type_of% (rr c14_14.eq_1):=rr rfl
def a14:AFun:=⟨2,13,c14_14,[.cell 4 8 true]⟩
attribute [simp] r14_6 r14_11 r14_14
theorem m14:mFun Tryz.prog Tryz.f14 a14=true:=by decide +kernel
noncomputable def CloneC (l:List Step):Option (List Step):=Part (l.length≤1099511627776) l
theorem runs_Clone (l c:List Step) (h:CloneC l=some c):Runs (tbl []) a69 [Arg.enc l] (Arg.enc c):=by
 obtain⟨hl,rfl⟩:=part_some h
 refine⟨rfl,fun g=>run_def ?_⟩
 unfold a69
 simp -implicitDefEqProofs []
 refine run_nilq_lst _ _ _ _ rfl ?_ ?_
 ·intro h0
  have:l=[]:=List.length_eq_zero_iff.1 h0
  subst this
  simp -implicitDefEqProofs [encL_nil]
 ·have h1:(encL l).length=l.length*3:=encL_length l
  have h2:=take_stepsE l
  by_cases h0:l=[]
  ·subst h0
   simp -implicitDefEqProofs [encL_nil]
  ·have h3:l.length≠0:=fun e=>h0 (List.length_eq_zero_iff.1 e)
   simp -implicitDefEqProofs [hl,h1,h2,h3]
theorem c_Clone:Contract Tryz.prog 69 (sp1 CloneC) :=
 contract_of_runs mixed tbl_nil Tryz.func69 m69 (sp1_runs runs_Clone)
structure SS where
 m:Model
 q:Query
 lf:Bool
 L:List Box
 G:List AV
 pf:List Step
 kind:Int
 w:Point
 tw:Int
 sp:Int
def SS.cellsV (x:SS) (l p:AV):List AV:=[.int .i64 x.m.dim,.int .i64 x.m.classes,.int .i64 x.m.bias.b0,.int .i64 x.m.bias.b1,.int .i64 x.m.bias.b2,.lst x.m.trees.length (encL x.m.trees),
 .int .i64 x.q.kind,.int .i64 x.q.cls,.int .i64 x.q.region.s0.lo,.int .i64 x.q.region.s0.hi,.int .i64 x.q.region.s1.lo,.int .i64 x.q.region.s1.hi,.int .i64 x.q.region.s2.lo,.int .i64 x.q.region.s2.hi,.int .i64 x.q.region.s3.lo,.int .i64 x.q.region.s3.hi,.int .i64 x.q.region.s4.lo,.int .i64 x.q.region.s4.hi,.int .i64 x.q.lo,.int .i64 x.q.hi,.int .i64 x.q.feature,.bool x.q.falls,.int .i64 x.q.budget,
 l,p,.int .i64 x.kind,if x.kind=1 then p else .nils,.int .i64 x.w.p0,.int .i64 x.w.p1,.int .i64 x.w.p2,.int .i64 x.w.p3,.int .i64 x.tw,.int .i64 0,.int .i64 x.sp]
def SS.lv (x:SS) (a g:Nat):AV:=if x.lf then .own a g 0 x.L.length else .nils
def SS.pv (x:SS) (b g:Nat):AV:=if x.pf=[] then .nils else .own b g 0 x.pf.length
def SS.lh (x:SS) (a:Nat):Hp:=if x.lf then [(a,⟨encL x.L++x.G,false,10⟩)] else []
def SS.ph (x:SS) (b:Nat):Hp:=if x.pf=[] then [] else [(b,⟨encL x.pf,false,3⟩)]
def SS.hp (x:SS) (s a b ga gb:Nat):Hp:=(s,⟨x.cellsV (x.lv a ga) (x.pv b gb),false,0⟩)::(x.lh a++x.ph b)
structure SS.Ok (x:SS):Prop where
 m:RM x.m
 q:x.lf=true→okQuery x.m x.q=true
 n:x.lf=false→x.kind=4∧x.pf=[]∧x.L=[]∧x.G=[]
 l:x.kind=0→x.L≠[]
 p:x.kind=1→x.pf≠[]
 b:∀ b∈x.L,okB b
 g:x.G.all AV.plain=true
 s0:0≤x.sp
 s1:x.sp≤65536
 ll:(x.L.length:Int)≤x.sp+1
 pl:(x.pf.length:Int)≤x.sp
 z:x.kind≠2→x.w=zeroP∧x.tw=0
theorem SS.inj {x y:SS} (hx:x.Ok) (hy:y.Ok) (h:x.hp 0 1 2 0 0=y.hp 0 1 2 0 0):x=y:=by
 obtain⟨⟨d,c,⟨b0,b1,b2⟩,tr⟩,⟨qk,qc,⟨⟨r0,r1⟩,⟨r2,r3⟩,⟨r4,r5⟩,⟨r6,r7⟩,⟨r8,r9⟩⟩,ql,qh,qf,qfa,qb⟩,lf,L,G,pf,kind,⟨w0,w1,w2,w3⟩,tw,sp⟩:=x
 obtain⟨⟨d',c',⟨b0',b1',b2'⟩,tr'⟩,⟨qk',qc',⟨⟨r0',r1'⟩,⟨r2',r3'⟩,⟨r4',r5'⟩,⟨r6',r7'⟩,⟨r8',r9'⟩⟩,ql',qh',qf',qfa',qb'⟩,lf',L',G',pf',kind',⟨w0',w1',w2',w3'⟩,tw',sp'⟩:=y
 unfold SS.hp at h
 rw[List.cons.injEq] at h
 obtain⟨h1,h2⟩:=h
 simp only[Prod.mk.injEq,Blk.mk.injEq,SS.cellsV,List.cons.injEq,AV.int.injEq,AV.bool.injEq,AV.lst.injEq,true_and,and_true] at h1
 obtain⟨rfl,rfl,rfl,rfl,rfl,⟨t1,t2⟩,rfl,rfl,rfl,rfl,rfl,rfl,rfl,rfl,rfl,rfl,rfl,rfl,rfl,rfl,rfl,rfl,rfl,hl,hp,rfl,hv,rfl,rfl,rfl,rfl,rfl,rfl⟩:=h1
 have ht:=encL_inj t1 t2
 subst ht
 have hn:=hx.n
 have hn':=hy.n
 simp only[SS.lv,SS.pv] at hl hp
 have hlf:lf=lf':=by
  cases lf<;>cases lf'<;>simp at hl ⊢
 subst hlf
 have hpf:pf=[]↔pf'=[]:=by
  by_cases e:pf=[]<;>by_cases e':pf'=[]<;>simp[e,e'] at hp ⊢
 simp only[SS.lh,SS.ph] at h2
 cases lf
 ·obtain⟨-,e1,e2,e3⟩:=hn rfl
  obtain⟨-,f1,f2,f3⟩:=hn' rfl
  simp only at e1 e2 e3 f1 f2 f3
  subst e1 e2 e3 f1 f2 f3
  rfl
 ·simp only[if_true,AV.own.injEq,true_and] at hl
  simp only[if_true,List.cons_append,List.nil_append,List.cons.injEq,Prod.mk.injEq,Blk.mk.injEq,true_and,and_true] at h2
  obtain⟨h3,h4⟩:=h2
  have h5:=List.append_inj h3 (by rw[encL_length,encL_length,hl])
  have h6:=encL_inj hl h5.1
  obtain⟨_,h7⟩:=h5
  subst h6 h7
  by_cases e:pf=[]
  ·have e':=hpf.1 e
   subst e e'
   rfl
  ·have e':pf'≠[]:=fun k=>e (hpf.2 k)
   rw[if_neg e,if_neg e'] at h4 hp
   simp only[AV.own.injEq,true_and] at hp
   simp only[List.cons.injEq,Prod.mk.injEq,Blk.mk.injEq,true_and,and_true] at h4
   have:=encL_inj hp h4
   subst this
   rfl
def stepS (x:SS):Bool×SS :=
 if x.kind≠0∨x.q.budget≤x.sp then (false,x) else
 if closedM x.m x.q (x.L.getLastD default) then (true,{ x with L:=x.L.dropLast,G:=Row.enc (x.L.getLastD default)++x.G,sp:=x.sp+1,pf:=x.pf++[sumS],kind:=if x.L.dropLast=[] then 1 else 0 }) else
 if corner x.m x.q (x.L.getLastD default) then (true,{ x with L:=x.L.dropLast,G:=Row.enc (x.L.getLastD default)++x.G,sp:=x.sp+1,kind:=2,w:=lowB (x.L.getLastD default),tw:=(x.L.getLastD default).s4.hi }) else
 if (splitM x.m x.q (x.L.getLastD default)).c then (true,{ x with L:=x.L.dropLast++[(cutB (x.L.getLastD default) (splitM x.m x.q (x.L.getLastD default)).a (splitM x.m x.q (x.L.getLastD default)).b).2,(cutB (x.L.getLastD default) (splitM x.m x.q (x.L.getLastD default)).a (splitM x.m x.q (x.L.getLastD default)).b).1],G:=[],sp:=x.sp+1,pf:=x.pf++[⟨false,(splitM x.m x.q (x.L.getLastD default)).a,(splitM x.m x.q (x.L.getLastD default)).b⟩] }) else
 (true,{ x with L:=x.L.dropLast,G:=Row.enc (x.L.getLastD default)++x.G,sp:=x.sp+1,kind:=3 })
open Classical in
noncomputable def stepG:GSp:=fun args h=>if hx:∃ x:SS,x.Ok∧args=[.ptr 0 0 0]∧h=x.hp 0 1 2 0 0 then some (.bool (stepS (Classical.choose hx)).1,(stepS (Classical.choose hx)).2.hp 0 3 4 0 0) else none
theorem stepG_of {x:SS} (h:x.Ok):stepG [.ptr 0 0 0] (x.hp 0 1 2 0 0)=some (.bool (stepS x).1,(stepS x).2.hp 0 3 4 0 0):=by
 unfold stepG
 have hx:∃ y:SS,y.Ok∧[AV.ptr 0 0 0]=[.ptr 0 0 0]∧x.hp 0 1 2 0 0=y.hp 0 1 2 0 0:=⟨x,h,rfl,rfl⟩
 rw[dif_pos hx]
 have hc:=Classical.choose_spec hx
 have e:Classical.choose hx=x:=(SS.inj h hc.1 hc.2.2).symm
 rw[e]
noncomputable abbrev ssT:Cs:=tbl [(65,sp3 ClosedC),(66,sp1 fun b=>some (lowB b,b.s4.hi)),(19,sp4 BreaksC),(67,sp3 SplitC),(68,sp3 CutB)]
abbrev stepRun (x:SS) (n1 n2:Option Nat) (r:AV) (h:Hp):Prop:=run ssT a35.code [] ⟨argEnv 0 [.ptr 0 0 0],x.hp 0 1 2 0 0,fun _=>0⟩ (gfinN2 a35.res true n1 n2 r h)
theorem run_stepA (x:SS) (hx:x.Ok) (hA:x.kind≠0∨x.q.budget≤x.sp):stepRun x (if x.lf then some 1 else none) (if x.pf=[] then none else some 2) (.bool false) (x.hp 0 3 4 0 0):=by
 obtain⟨m,q,lf,L,G,pf,kind,w,tw,sp⟩:=x
 have hpl:(encL L++G).all AV.plain=true:=by rw[List.all_append,encL_plain];exact hx.g
 have hpp:(encL pf).all AV.plain=true:=encL_plain pf
 have hk1:=hx.p
 have hn:=hx.n
 simp only at hA hk1 hn
 unfold stepRun a35
 cases lf
 ·obtain⟨rfl,rfl,rfl,rfl⟩:=hn rfl
  simp -implicitDefEqProofs [SS.hp,SS.cellsV,SS.lv,SS.pv,SS.lh,SS.ph]
 ·by_cases hpf:pf=[]
  ·subst hpf
   have hk:¬ kind=1:=fun e=>hk1 e rfl
   by_cases h0:kind=0
   ·have hb:q.budget≤sp:=by omega
    simp -implicitDefEqProofs [SS.hp,SS.cellsV,SS.lv,SS.pv,SS.lh,SS.ph,h0,hb,mapM1_nrm hpl]
   ·simp -implicitDefEqProofs [SS.hp,SS.cellsV,SS.lv,SS.pv,SS.lh,SS.ph,h0,hk,mapM1_nrm hpl]
  ·by_cases h0:kind=0
   ·have hb:q.budget≤sp:=by omega
    simp -implicitDefEqProofs [SS.hp,SS.cellsV,SS.lv,SS.pv,SS.lh,SS.ph,h0,hb,hpf,mapM1_nrm hpl,mapM1_nrm hpp]
   ·by_cases h1:kind=1
    ·simp -implicitDefEqProofs [SS.hp,SS.cellsV,SS.lv,SS.pv,SS.lh,SS.ph,h1,hpf,mapM1_nrm hpl,mapM1_nrm hpp]
    ·simp -implicitDefEqProofs [SS.hp,SS.cellsV,SS.lv,SS.pv,SS.lh,SS.ph,h0,h1,hpf,mapM1_nrm hpl,mapM1_nrm hpp]
theorem run_stepB (m:Model) (q:Query) (R:List Box) (b:Box) (G:List AV) (pf:List Step) (w:Point) (tw sp:Int) (hx:SS.Ok ⟨m,q,true,R++[b],G,pf,0,w,tw,sp⟩) (hw:w=zeroP∧tw=0) (hbu:¬ q.budget≤sp) :
  ∃ n1 n2,stepRun ⟨m,q,true,R++[b],G,pf,0,w,tw,sp⟩ n1 n2 (.bool (stepS ⟨m,q,true,R++[b],G,pf,0,w,tw,sp⟩).1) ((stepS ⟨m,q,true,R++[b],G,pf,0,w,tw,sp⟩).2.hp 0 3 4 0 0):=by
 obtain⟨rfl,rfl⟩:=hw
 have hm:RM m:=hx.m
 have hg:G.all AV.plain=true:=hx.g
 have hpp:(encL pf).all AV.plain=true:=encL_plain pf
 have hbok:okB b:=hx.b b (by simp)
 have hRl:=hx.ll
 have hpl:=hx.pl
 have hs0:=hx.s0
 have hs1:=hx.s1
 simp only[List.length_append,List.length_singleton] at hRl hpl hs0 hs1
 have wL:IntKind.i64.wrap ((R.length:Nat):Int)=R.length:=wrap64 (by omega) (by omega)
 have c0:R.length+1≤maxN:=by unfold maxN;omega
 have c0':R.length≤maxN:=by unfold maxN;omega
 have c9:(R.length:Int)<(R.length:Int)+1:=by omega
 have c10:(R.length:Int)≤(R.length:Int)+1:=by omega
 have c11:R.length≤1099511627774:=by omega
 have c12:pf.length≤1099511627775:=by omega
 have w1:IntKind.i64.wrap (sp+1)=sp+1:=wrap64 (by omega) (by omega)
 have htop:rd (encL R++(Row.enc b++G)) (R.length*10) 10 true=some (.agg (Row.enc b)):=by
  have:=rd_top R b G
  rw[encL_append,List.append_assoc] at this
  simpa [encL_cons,encL_nil] using this
 have e1:encL (R++[b])++G=encL R++(Row.enc b++G):=by simp[encL_append,encL_cons,encL_nil]
 have e2:(R++[b]).length=R.length+1:=by simp
 have e3:(R++[b]).getLastD default=b:=by simp
 have e4:(R++[b]).dropLast=R:=by simp
 have htk:=take_boxG R (Row.enc b++G)
 have hlen:=len_boxG R (Row.enc b++G)
 have hX:(encL R++(Row.enc b++G)).all AV.plain=true:=by
  rw[List.all_append,List.all_append,encL_plain,hg]
  rfl
 have hst:stepS ⟨m,q,true,R++[b],G,pf,0,zeroP,0,sp⟩=(if closedM m q b then (true,⟨m,q,true,R,Row.enc b++G,pf++[sumS],if R=[] then 1 else 0,zeroP,0,sp+1⟩) else
   if corner m q b then (true,⟨m,q,true,R,Row.enc b++G,pf,2,lowB b,b.s4.hi,sp+1⟩) else
   if (splitM m q b).c then (true,⟨m,q,true,R++[(cutB b (splitM m q b).a (splitM m q b).b).2,(cutB b (splitM m q b).a (splitM m q b).b).1],[],pf++[⟨false,(splitM m q b).a,(splitM m q b).b⟩],0,zeroP,0,sp+1⟩) else
   (true,⟨m,q,true,R,Row.enc b++G,pf,3,zeroP,0,sp+1⟩)):=by
  unfold stepS
  rw[if_neg (by simp only[not_or];exact⟨fun h=>h rfl,hbu⟩)]
  simp only[e3,e4]
 rw[hst]
 have hhp:SS.hp ⟨m,q,true,R++[b],G,pf,0,zeroP,0,sp⟩ 0 1 2 0 0=SS.hp ⟨m,q,true,R++[b],G,pf,0,zeroP,0,sp⟩ 0 1 2 0 0:=rfl
 unfold stepRun a35
 generalize hG2:Row.enc b++G=G2 at *
 have hlen2:R.length*10≤(encL R).length+G2.length:=by simpa using hlen
 have htop:rd (encL R++G2) (R.length*10) 10 true=some (.agg [.int .i64 b.s0.lo,.int .i64 b.s0.hi,.int .i64 b.s1.lo,.int .i64 b.s1.hi,.int .i64 b.s2.lo,.int .i64 b.s2.hi,.int .i64 b.s3.lo,.int .i64 b.s3.hi,.int .i64 b.s4.lo,.int .i64 b.s4.hi]):=htop
 have hCl:ClosedC m q b=some (closedM m q b):=part_of ⟨hm,hbok⟩ _
 have hBr:BreaksC m q (lowB b) b.s4.hi=some (corner m q b):=part_of hm _
 have hSp:SplitC m q b=some (splitM m q b):=part_of hm _
 have htkp:=take_stepsE pf
 have hlnp:=len_steps pf
 cases hcl:closedM m q b
 case true =>
  rw[hcl] at hCl
  rw[if_pos rfl]
  have hsn:encL (pf++[sumS])=encL pf++[.bool true,.int .i64 0,.int .i64 0]:=by rw[encL_append];rfl
  have hps:(encL pf++[AV.bool true,.int .i64 0,.int .i64 0]).all AV.plain=true:=by rw[List.all_append,hpp];rfl
  refine⟨some 1,some 10024, ?_⟩
  by_cases hR:R=[]
  ·have hz:((R.length:Int)=0)=True:=eq_true (by rw[hR];rfl)
   by_cases hpf:pf=[]
   ·subst hpf
    have hs':encL [sumS]=[AV.bool true,.int .i64 0,.int .i64 0]:=rfl
    simp -implicitDefEqProofs [SS.hp,SS.cellsV,SS.lv,SS.pv,SS.lh,SS.ph,e1,e2,hs',c0,c0',c9,c10,wL,if_pos hR,hz,hbu,w1,htop,hlen2,hCl,zeroP,mapM1_nrm hX]
    exact hR
   ·generalize hY:encL pf++[AV.bool true,.int .i64 0,.int .i64 0]=Y at *
    simp -implicitDefEqProofs [SS.hp,SS.cellsV,SS.lv,SS.pv,SS.lh,SS.ph,e1,e2,hsn,c0,c0',c9,c10,wL,if_pos hR,hz,hbu,w1,htop,hlen2,hCl,zeroP,mapM1_nrm hX,mapM1_nrm hps,hY,hpf,c12,htkp,hlnp]
    exact hR
  ·have hz:((R.length:Int)=0)=False:=eq_false (fun e=>hR (List.length_eq_zero_iff.1 (by omega)))
   by_cases hpf:pf=[]
   ·subst hpf
    have hs':encL [sumS]=[AV.bool true,.int .i64 0,.int .i64 0]:=rfl
    simp -implicitDefEqProofs [SS.hp,SS.cellsV,SS.lv,SS.pv,SS.lh,SS.ph,e1,e2,hs',c0,c0',c9,c10,wL,if_neg hR,hz,hbu,w1,htop,hlen2,hCl,zeroP,mapM1_nrm hX]
    exact hR
   ·generalize hY:encL pf++[AV.bool true,.int .i64 0,.int .i64 0]=Y at *
    simp -implicitDefEqProofs [SS.hp,SS.cellsV,SS.lv,SS.pv,SS.lh,SS.ph,e1,e2,hsn,c0,c0',c9,c10,wL,if_neg hR,hz,hbu,w1,htop,hlen2,hCl,zeroP,mapM1_nrm hX,mapM1_nrm hps,hY,hpf,c12,htkp,hlnp]
    exact hR
 case false =>
  rw[hcl] at hCl
  rw[if_neg Bool.false_ne_true]
  cases hco:corner m q b
  case true =>
   rw[hco] at hBr
   rw[if_pos rfl]
   by_cases hpf:pf=[]
   ·subst hpf
    refine⟨some 1,none, ?_⟩
    simp -implicitDefEqProofs [SS.hp,SS.cellsV,SS.lv,SS.pv,SS.lh,SS.ph,e1,e2,c0,c0',c9,c10,wL,hbu,w1,htop,hlen2,hCl,hBr,mapM1_nrm hX]
   ·refine⟨some 1,some 2, ?_⟩
    simp -implicitDefEqProofs [SS.hp,SS.cellsV,SS.lv,SS.pv,SS.lh,SS.ph,e1,e2,c0,c0',c9,c10,wL,hbu,w1,htop,hlen2,hCl,hBr,hpf,mapM1_nrm hX,mapM1_nrm hpp]
  case false =>
   rw[hco] at hBr
   rw[if_neg Bool.false_ne_true]
   have hin:=split_in (m:=m) (q:=q) (b:=b)
   have hkok:=fun i:Int=>cuts_ok hm (q:=q) (b:=b) (i:=i)
   generalize splitM m q b=z at *
   obtain⟨k,at_,ok⟩:=z
   simp only at hin
   cases ok
   case false =>
    rw[if_neg Bool.false_ne_true]
    by_cases hpf:pf=[]
    ·subst hpf
     refine⟨some 1,none, ?_⟩
     simp -implicitDefEqProofs [SS.hp,SS.cellsV,SS.lv,SS.pv,SS.lh,SS.ph,e1,e2,c0,c0',c9,c10,wL,hbu,w1,htop,hlen2,hCl,hBr,hSp,zeroP,mapM1_nrm hX]
    ·refine⟨some 1,some 2, ?_⟩
     simp -implicitDefEqProofs [SS.hp,SS.cellsV,SS.lv,SS.pv,SS.lh,SS.ph,e1,e2,c0,c0',c9,c10,wL,hbu,w1,htop,hlen2,hCl,hBr,hSp,zeroP,hpf,mapM1_nrm hX,mapM1_nrm hpp]
   case true =>
    rw[if_pos rfl]
    obtain⟨k0,k5,kin⟩:=hin rfl
    have hCu:CutB b k at_=some (cutB b k at_):=cutB_of hbok k (hkok _ _ kin)
    generalize cutB b k at_=xy at *
    obtain⟨x,y⟩:=xy
    simp only
    have hsn:encL (pf++[⟨false,k,at_⟩])=encL pf++[.bool false,.int .i64 k,.int .i64 at_]:=by rw[encL_append];rfl
    have hps:(encL pf++[AV.bool false,.int .i64 k,.int .i64 at_]).all AV.plain=true:=by rw[List.all_append,hpp];rfl
    have hrow2:encL (R++[y,x])++[]=encL R++[.int .i64 y.s0.lo,.int .i64 y.s0.hi,.int .i64 y.s1.lo,.int .i64 y.s1.hi,.int .i64 y.s2.lo,.int .i64 y.s2.hi,.int .i64 y.s3.lo,.int .i64 y.s3.hi,.int .i64 y.s4.lo,.int .i64 y.s4.hi,.int .i64 x.s0.lo,.int .i64 x.s0.hi,.int .i64 x.s1.lo,.int .i64 x.s1.hi,.int .i64 x.s2.lo,.int .i64 x.s2.hi,.int .i64 x.s3.lo,.int .i64 x.s3.hi,.int .i64 x.s4.lo,.int .i64 x.s4.hi]:=by simp[encL_append,encL_cons,encL_nil]
    have hpz:(encL R++[AV.int .i64 y.s0.lo,.int .i64 y.s0.hi,.int .i64 y.s1.lo,.int .i64 y.s1.hi,.int .i64 y.s2.lo,.int .i64 y.s2.hi,.int .i64 y.s3.lo,.int .i64 y.s3.hi,.int .i64 y.s4.lo,.int .i64 y.s4.hi,.int .i64 x.s0.lo,.int .i64 x.s0.hi,.int .i64 x.s1.lo,.int .i64 x.s1.hi,.int .i64 x.s2.lo,.int .i64 x.s2.hi,.int .i64 x.s3.lo,.int .i64 x.s3.hi,.int .i64 x.s4.lo,.int .i64 x.s4.hi]).all AV.plain=true:=by rw[List.all_append,encL_plain];rfl
    have e5:(R++[y,x]).length=R.length+2:=by simp
    generalize hZ:encL R++[AV.int .i64 y.s0.lo,.int .i64 y.s0.hi,.int .i64 y.s1.lo,.int .i64 y.s1.hi,.int .i64 y.s2.lo,.int .i64 y.s2.hi,.int .i64 y.s3.lo,.int .i64 y.s3.hi,.int .i64 y.s4.lo,.int .i64 y.s4.hi,.int .i64 x.s0.lo,.int .i64 x.s0.hi,.int .i64 x.s1.lo,.int .i64 x.s1.hi,.int .i64 x.s2.lo,.int .i64 x.s2.hi,.int .i64 x.s3.lo,.int .i64 x.s3.hi,.int .i64 x.s4.lo,.int .i64 x.s4.hi]=Z at *
    have hrow3:encL (R++[y,x])=Z:=by rw[← hrow2,List.append_nil]
    refine⟨some 10023,some 10024, ?_⟩
    by_cases hpf:pf=[]
    ·subst hpf
     have hs':encL [(⟨false,k,at_⟩:Step)]=[AV.bool false,.int .i64 k,.int .i64 at_]:=rfl
     simp -implicitDefEqProofs [SS.hp,SS.cellsV,SS.lv,SS.pv,SS.lh,SS.ph,e1,e2,e5,c0,c0',c9,c10,c11,wL,hbu,w1,htop,hlen2,hCl,hBr,hSp,hCu,htk,hs',hrow3,hZ,zeroP,mapM1_nrm hpz]
    ·generalize hY:encL pf++[AV.bool false,.int .i64 k,.int .i64 at_]=Y at *
     simp -implicitDefEqProofs [SS.hp,SS.cellsV,SS.lv,SS.pv,SS.lh,SS.ph,e1,e2,e5,c0,c0',c9,c10,c11,c12,wL,hbu,w1,htop,hlen2,hCl,hBr,hSp,hCu,htk,hsn,hrow3,hZ,hY,hpf,htkp,hlnp,zeroP,mapM1_nrm hpz,mapM1_nrm hps]
end Go.Co
