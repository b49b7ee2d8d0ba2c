/- AM: each operation beside the model's: sound. -/
import Derived.Test.YtlbfmeijjgphfaaGreatDoorAm1
import Derived.IntWalk
import Derived.ChangeKeysEq
import Derived.Maps.Own
import Derived.Maps.RangeRun
set_option linter.unusedVariables false
set_option linter.unusedSimpArgs false
namespace Go.Am
set_option linter.unusedSimpArgs false
set_option linter.unusedVariables false
open Go.RowKit
section
variable {P:Program} {w0:Base} {I0:Nat→Prop} {N:Nat} {I:Nat→Prop} {ρ:Nat→Place} {s:St} {a:Act} {w:World} {M:Option Mode}
theorem tInfo_spec {t:TypeId} {n:Nat} {agg:Bool} (h:tInfo P t=some (n,agg)) :
  (∃ i,P.info? t=some i∧i.size=n)∧∀ w,(isAgg t).run P w=.ok agg w:=by
 unfold tInfo at h
 split at h
 ·rename_i i fs hi hu
  cases h
  exact⟨⟨i,hi,rfl⟩,fun w=>by simp[isAgg,run_underlying hu]⟩
 ·rename_i i k e hi hu
  cases h
  exact⟨⟨i,hi,rfl⟩,fun w=>by simp[isAgg,run_underlying hu]⟩
 ·rename_i i d h1 h2 hi hu
  cases h
  refine⟨⟨i,hi,rfl⟩,fun w=>?_⟩
  simp only[isAgg,Sem.run_bind,run_underlying hu,Result.andThen_ok]
  cases d<;>first|rfl|(exact absurd hu (by first|exact h1 _|exact h2 _ _))
 ·cases h
theorem tIs_spec {t:TypeId} {n:Nat} {agg:Bool} (h:tIs P t n agg=true) :
  (∃ i,P.info? t=some i∧i.size=n)∧(∀ w,(isAgg t).run P w=.ok agg w)∧(agg=false→n=1):=by
 unfold tIs at h
 split at h
 ·rename_i m b hi
  simp at h
  obtain⟨⟨h1,h2⟩,h3⟩:=h
  subst h1;subst h2
  obtain⟨h4,h5⟩:=tInfo_spec hi
  exact⟨h4,h5,fun e=>h3.resolve_left (by simp[e])⟩
 ·cases h
theorem run_sizeOf' {t:TypeId} {i:TypeInfo} (hi:P.info? t=some i) (w:World):(sizeOf t).run P w=.ok i.size w:=by
 simp[sizeOf,typeInfo,hi]
theorem Addr_add (b o n:Nat):(⟨b,o,none⟩:Addr).add n=⟨b,o+n,none⟩:=by
 unfold Addr.add;split
 ·subst_vars;rfl
 ·rfl
theorem run_loadVar' {t:TypeId} {n:Nat} {agg:Bool} (ht:tIs P t n agg=true) {b o:Nat} {cs:List Value} (hl:cs.length=n) (hc:rowAt w b o cs) :
  ∃ v,(loadVar t ⟨b,o,none⟩).run P w=.ok v w∧(agg=true→v=.agg cs.toArray)∧(agg=false→cs=[v]):=by
 obtain⟨⟨i,hi,hn⟩,ha,h1⟩:=tIs_spec ht
 cases agg with
 | true =>
  refine⟨.agg cs.toArray, ?_,fun _=>rfl,fun h=>by cases h⟩
  have hr:=run_loadCells_list (P:=P) w ⟨b,o,none⟩ cs (fun j v hv=>by rw[Addr_add];exact hc j v hv)
  rw[hl,← hn] at hr
  simp[loadVar,ha,run_sizeOf' hi,hr]
 | false =>
  have hn1:=h1 rfl
  rw[hn1] at hl
  match cs,hl with
  | [c],_ =>
   refine⟨c, ?_,fun h=>(by cases h),fun _=>rfl⟩
   have:=hc 0 c rfl
   simp at this
   simp[loadVar,ha,run_load,this]
theorem rd_VR {xs:List AV} {us:List Value} {o n:Nat} {agg:Bool} {x:AV} (hx:rd xs o n agg=some x) (hv:VRs I w M xs us) (h1:agg=false→n=1) :
  ((us.drop o).take n).length=n∧(agg=true→VR I w M x (.agg ((us.drop o).take n).toArray))∧(agg=false→∀ v,(us.drop o).take n=[v]→VR I w M x v):=by
 unfold rd at hx
 split at hx
 ·rename_i hle
  have hlen:=hv.length
  refine⟨by simp;omega,fun e=>?_,fun e v hvv=>?_⟩
  ·subst e
   simp at hx
   subst hx
   simp only[VR]
   exact⟨_,rfl,(hv.drop o).take n⟩
  ·subst e
   simp at hx
   obtain⟨v',hv',hr⟩:=hv.get o x hx
   have:((us.drop o).take n)[0]? = some v:=by rw[hvv];rfl
   rw[h1 rfl] at this
   simp[List.getElem?_drop] at this
   rw[this] at hv'
   cases hv'
   exact hr
 ·cases hx
theorem rowAt_of_heap {r:Nat} {arr:Array Value} {ty:Nat} {fr:Nat×Nat} (hc:w.heap[r]? = some (.cells arr ty fr)) (L o n:Nat):rowAt w r o (((arr.toList.take L).drop o).take n):=by
 intro i v hv
 simp only[World.cell?,hc]
 rw[List.getElem?_take] at hv
 split at hv
 ·rw[List.getElem?_drop,List.getElem?_take] at hv
  split at hv
  ·simpa using hv
  ·cases hv
 ·cases hv
theorem rowAt_drop {b off:Nat} {cs:List Value} (h:rowAt w b off cs) (o n:Nat):rowAt w b (off+o) ((cs.drop o).take n):=by
 intro i v hv
 rw[List.getElem?_take] at hv
 split at hv
 ·rw[List.getElem?_drop] at hv
  rw[Nat.add_assoc]
  exact h _ v hv
 ·cases hv
def Sim (P:Program) (N:Nat) (o:Oper) (C:Cs) (ao:AOper):Prop :=
 ∀(w0:Base) (I0 I:Nat→Prop) (ρ:Nat→Place) (s:St) (a:Act) (w:World) (e:Eff) (K:Act→World→Prop) (Q:Exit→Act→World→Prop),
  R w0 I0 N I ρ s a w→eff C s ao=.ok e→(∀ I' ρ' a' w',R w0 I0 N I' ρ' (app ao.d e s) a' w'→K a' w')→o.wp P a w K Q
theorem wp_of_run {o:Oper} {v:Value} {w':World} {K:Act→World→Prop} {Q:Exit→Act→World→Prop} (hr:(execOp a.eval o).run P w=.ok (.value v) w') (hk:K (a.put o.dst v) w'):o.wp P a w K Q:=by
 unfold Oper.wp;rw[hr];exact hk
theorem wp_of_skip {o:Oper} {w':World} {K:Act→World→Prop} {Q:Exit→Act→World→Prop} (hr:(execOp a.eval o).run P w=.ok .skip w') (hk:K (a.put o.dst undef) w'):o.wp P a w K Q:=by
 unfold Oper.wp;rw[hr];exact hk
theorem close_val {o:Oper} {ao:AOper} {x:AV} {v:Value} {K:Act→World→Prop} {Q:Exit→Act→World→Prop} (h:R w0 I0 N I ρ s a w) (hd:o.dst=ao.d) (hN:∀ n,ao.d=some n→n<N)
  (hK:∀ I' ρ' a' w',R w0 I0 N I' ρ' (app ao.d { v:=some x } s) a' w'→K a' w') (hr:(execOp a.eval o).run P w=.ok (.value v) w) (hv:VR I w (modeOf s ρ) x v):o.wp P a w K Q:=by
 refine wp_of_run hr (hK I ρ _ w ?_)
 rw[hd]
 exact h.putO hN (fun y hy=>by cases hy;exact hv)
theorem val_ok {x:AV} {e:Eff} (h:val x=.ok e):e={ v:=some x }:=by unfold val at h;cases h;rfl
theorem valO_ok {x:Option AV} {e:Eff} (h:valO x=.ok e):∃ y,x=some y∧e={ v:=some y }:=by
 cases x with
 | none=>cases h
 | some y=>unfold valO at h;cases h;exact⟨y,rfl,rfl⟩
section ops
variable {o:Oper} {ao:AOper} {C:Cs}
theorem sim_mv (hd:o.dst=ao.d) (hN:∀ n,ao.d=some n→n<N) (x:Operand) (y:AOpd) (ho:o.op=.move x∨o.op=.assign x) (hao:ao.op=.mv y) (hm:mOpd x y=true):Sim P N o C ao:=by
 intro w0 I0 I ρ s a w e K Q h he hK
 unfold eff at he
 rw[hao] at he
 have:=val_ok he;subst this
 refine close_val h hd hN hK (v:=a.eval x) ?_ (h.opd hm)
 rcases ho with ho|ho<;>simp[execOp,ho]
theorem sim_pick (hd:o.dst=ao.d) (hN:∀ n,ao.d=some n→n<N) (c x z:Operand) (c' x' z':AOpd) (ho:o.op=.pick c x z) (hao:ao.op=.pick c' x' z') (hc:mOpd c c'=true) (hx:mOpd x x'=true) (hz:mOpd z z'=true):Sim P N o C ao:=by
 intro w0 I0 I ρ s a w e K Q h he hK
 unfold eff at he
 rw[hao] at he
 simp only[] at he
 have hcv:=h.opd hc
 split at he
 ·rename_i t hct
  rw[hct] at hcv
  have hb:=VR_bool hcv
  have:=val_ok he;subst this
  refine close_val h hd hN hK (v:=if t then a.eval x else a.eval z) ?_ ?_
  ·simp[execOp,ho,hb,asBool]
  ·cases t
   ·exact h.opd hz
   ·exact h.opd hx
 ·cases he
theorem sim_load (hd:o.dst=ao.d) (hN:∀ n,ao.d=some n→n<N) (t:TypeId) (x:Operand) (n:Nat) (agg:Bool) (x':AOpd) (ho:o.op=.load t x) (hao:ao.op=.load n agg x') (hx:mOpd x x'=true) (ht:tIs P t n agg=true):Sim P N o C ao:=by
 intro w0 I0 I ρ s a w e K Q h he hK
 unfold eff at he
 rw[hao] at he
 simp only[] at he
 have hv:=h.opd hx
 have h1:=(tIs_spec ht).2.2
 split at he
 ·rename_i b g p hp
  rw[hp] at hv
  split at he
  ·rename_i k hk
   obtain⟨y,hy,rfl⟩:=valO_ok he
   obtain⟨r,σ,hρ,hav⟩:=h.ptr hk hv
   obtain⟨_,_,_,hok⟩:=h.blk hk
   rw[hρ] at hok
   obtain⟨_,_,_,_,arr,ty,hheap,_,hvs⟩:=hok
   obtain⟨hl,hA,hB⟩:=rd_VR hy hvs h1
   obtain⟨v,hrun,hva,hvb⟩:=run_loadVar' (P:=P) ht hl (rowAt_of_heap hheap k.cs.length p n)
   refine close_val h hd hN hK (v:=v) ?_ ?_
   ·simp[execOp,ho,Instr.loadAt,hav,Instr.sureAddr,hrun]
   ·cases agg with
    | true=>rw[hva rfl];exact hA rfl
    | false=>exact hB rfl v (hvb rfl)
  ·cases he
 ·rename_i p cs hp
  rw[hp] at hv
  obtain⟨y,hy,rfl⟩:=valO_ok he
  simp only[VR] at hv
  obtain⟨b,off,us,hav,_,hrow,hvs⟩:=hv
  obtain⟨hl,hA,hB⟩:=rd_VR hy hvs h1
  obtain⟨v,hrun,hva,hvb⟩:=run_loadVar' (P:=P) ht hl (rowAt_drop hrow p n)
  have hup:VRs I w (modeOf s ρ) cs us:=VRs.mono (fun _ h=>h) (fun _ _ _=>rfl) _ _ (M:=none) trivial hvs
  obtain⟨hl,hA,hB⟩:=rd_VR hy hup h1
  refine close_val h hd hN hK (v:=v) ?_ ?_
  ·simp[execOp,ho,Instr.loadAt,hav,Instr.sureAddr,hrun]
  ·cases agg with
   | true=>rw[hva rfl];exact hA rfl
   | false=>exact hB rfl v (hvb rfl)
 ·cases he
theorem VR_newptr {s':St} {ρ':Nat→Place} {d r σ:Nat} {g:Nat} {k:Blk} (hg:s'.g d=g) (hk:hlook s'.h d=some k) (hρ:ρ' d=some (r,σ)):VR I w (modeOf s' ρ') (.ptr d g 0) (.pointer (some ⟨r,0,none⟩)):=by
 simp only[VR,modeOf]
 refine⟨⟨_,rfl⟩,by omega,fun L hL=>?_⟩
 simp[aliveA,hg,hk] at hL
 subst hL
 exact⟨r,σ,hρ,rfl⟩
theorem VR_newown {s':St} {ρ':Nat→Place} {d r σ n cap:Nat} {g:Nat} {k:Blk} (hg:s'.g d=g) (hk:hlook s'.h d=some k) (hρ:ρ' d=some (r,σ)) (h1:n≤cap) (h2:cap≤maxLen) (h3:cap*(k.esz % 4096)=σ) :
  VR I w (modeOf s' ρ') (.own d g 0 n) (.slice (some ⟨r,0,none⟩) n cap):=by
 simp only[VR,modeOf]
 refine⟨⟨_,_,_,rfl⟩,by omega,fun L hL=>?_⟩
 simp[aliveA,hg,hk] at hL
 subst hL
 simp only[hρ]
 exact⟨_,cap,rfl,h1,h2,.inr ⟨rfl,fun _=>h3⟩⟩
theorem bump_self (d:Nat) (g:Nat→Nat):bump d g d=g d+1:=by simp[bump]
theorem below_push (w:World) (ob:Obj):Below w.heap.size w { w with heap:=w.heap.push ob }:=(Below.refl _ w).alloc (Nat.le_refl _) ob
theorem heap_push_new (w:World) (ob:Obj):({ w with heap:=w.heap.push ob }:World).heap[w.heap.size]? = some ob:=by simp
theorem run_zero {t:TypeId} {z:List AV} (hz:tZero P t z=true):∃ v,(∀ w,(zeroValue t).run P w=.ok v w)∧∀(I:Nat→Prop) w M,VRs I w M z v.cells.toList:=by
 unfold tZero at hz
 split at hz
 ·rename_i i hi
  split at hz
  ·rename_i v hv
   refine⟨v,fun w=>by simp[zeroValue,typeInfo,hi,hv],fun I w M=>cvals_VRs _ _ hz⟩
  ·cases hz
 ·cases hz
theorem close_boxT (hd:o.dst=ao.d) (hN:∀ n,ao.d=some n→n<N) {d:Nat} {cs:List AV} {vs:Array Value} {ty:TypeId} {K:Act→World→Prop} {Q:Exit→Act→World→Prop} {esz:Nat} (h:R w0 I0 N I ρ s a w)
  (hK:∀ I' ρ' a' w',R w0 I0 N I' ρ' (app ao.d { v:=some (.ptr d (s.g d+1) 0),nw:=some (d,⟨cs,false,esz⟩) } s) a' w'→K a' w')
  (hr:(execOp a.eval o).run P w=.ok (.value (.pointer (some ⟨w.heap.size,0,none⟩))) { w with heap:=w.heap.push (.cells vs ty) }) (hv:VRs I w (modeOf s ρ) cs vs.toList) (he:esz≠mapTag) (hT:esz<4096∨(ty=(esz/4096-1)/2∧((esz/4096)%2=0→vs.size=cs.length))):o.wp P a w K Q:=by
 have hl:=hv.length
 have h1:=h.alloc d w.heap.size esz cs vs ty he (below_push w _) (Nat.le_refl _) (heap_push_new w _) (by simp at hl;omega) (by rw[List.take_of_length_le (by omega)];exact hv) hT
 refine wp_of_run hr (hK I (fun b=>if b=d then some (w.heap.size,vs.size) else ρ b) _ _ ?_)
 rw[hd]
 refine h1.putO hN (fun y hy=>?_)
 cases hy
 exact VR_newptr (bump_self _ _) (by rw[hlook_hput,if_pos rfl]) (if_pos rfl)
theorem close_box (hd:o.dst=ao.d) (hN:∀ n,ao.d=some n→n<N) {d:Nat} {cs:List AV} {vs:Array Value} {ty:TypeId} {K:Act→World→Prop} {Q:Exit→Act→World→Prop} (h:R w0 I0 N I ρ s a w)
  (hK:∀ I' ρ' a' w',R w0 I0 N I' ρ' (app ao.d { v:=some (.ptr d (s.g d+1) 0),nw:=some (d,⟨cs,false,0⟩) } s) a' w'→K a' w')
  (hr:(execOp a.eval o).run P w=.ok (.value (.pointer (some ⟨w.heap.size,0,none⟩))) { w with heap:=w.heap.push (.cells vs ty) }) (hv:VRs I w (modeOf s ρ) cs vs.toList):o.wp P a w K Q :=
 close_boxT hd hN h hK hr hv (by decide) (.inl (by decide))
theorem sim_alloc (hd:o.dst=ao.d) (hN:∀ n,ao.d=some n→n<N) (t:TypeId) (z:List AV) (ho:o.op=.alloc t) (hao:ao.op=.alloc z) (hz:tZero P t z=true):Sim P N o C ao:=by
 intro w0 I0 I ρ s a w e K Q h he hK
 unfold eff at he
 rw[hao] at he
 simp only[] at he
 split at he
 ·rename_i d hdd
  cases he
  obtain⟨v,hrun,hvs⟩:=run_zero (P:=P) hz
  refine close_box (o:=o) (ao:=ao) hd hN (vs:=v.cells) (ty:=t) h hK ?_ (hvs I w _)
  simp[execOp,ho,Instr.alloc,hrun,newVar,newRow]
 ·cases he
theorem one_VR {x:AV} {v:Value} (hc:x.isCell=true) (hv:VR I w M x v):VRs I w M [x] v.cells.toList:=by
 have h1:VRs I w M [x] [v]:=by simp only[VRs];exact⟨hv,trivial⟩
 have h2:=VRs_oneCell h1 (by simp[hc]) v (by simp)
 cases v<;>simp[Value.oneCell'] at h2<;>simpa [Value.cells] using h1
theorem cells_VR {x:AV} {v:Value} {cs:List AV} (hx:x.cells=some cs) (hv:VR I w M x v):VRs I w M cs v.cells.toList:=by
 cases x<;>simp only[AV.cells,Option.some.injEq,reduceCtorEq] at hx
 case agg xs =>
  subst hx
  obtain⟨us,rfl,hu⟩:=VR_agg hv
  simpa [Value.cells] using hu
 all_goals
  subst hx
  exact one_VR rfl hv
theorem sim_box (hd:o.dst=ao.d) (hN:∀ n,ao.d=some n→n<N) (t:TypeId) (x:Operand) (x':AOpd) (n:Nat) (ho:o.op=.box t x) (hao:ao.op=.box x' n) (hx:mOpd x x'=true):Sim P N o C ao:=by
 intro w0 I0 I ρ s a w e K Q h he hK
 unfold eff at he
 rw[hao] at he
 simp only[] at he
 split at he
 ·rename_i d cs hdd hcs
  split at he
  ·cases he
   refine close_box (o:=o) (ao:=ao) hd hN (vs:=(a.eval x).cells) (ty:=t) h hK ?_ (cells_VR hcs (h.opd hx))
   simp[execOp,ho,Instr.box,newVar,newRow]
  ·cases he
 ·cases he
theorem fill_sound (h:R w0 I0 N I ρ s a w) {place:Nat→Option (Nat×Nat)}:∀(ps:List (Nat×Operand)) (qs:List (Nat×Nat×AOpd)) (cs cs':List AV) (us:List Value),mParts place ps qs=true→VRs I w (modeOf s ρ) cs us →
  fill s cs qs=some cs'→∃ us',Instr.fill place us.toArray (ps.map fun (i,x)=>(i,a.eval x))=some us'∧VRs I w (modeOf s ρ) cs' us'.toList
 | [],[],cs,cs',us,_,hv,hf=>by
  simp[fill] at hf;subst hf
  exact⟨us.toArray,rfl,by simpa using hv⟩
 | [],_::_,_,_,_,hm,_,_=>by simp[mParts] at hm
 | _::_,[],_,_,_,hm,_,_=>by simp[mParts] at hm
 | (i,x)::ps,(off,n,y)::qs,cs,cs',us,hm,hv,hf=>by
  simp only[mParts,Bool.and_eq_true,decide_eq_true_eq] at hm
  obtain⟨⟨hpl,hxy⟩,hrest⟩:=hm
  simp only[fill] at hf
  split at hf
  ·rename_i vs hvs
   split at hf
   ·rename_i hcond
    have hcv:=cells_VR hvs (h.opd hxy)
    have hl:=hcv.length
    have hl2:=hv.length
    have hw:=hv.wr hcv off
    obtain⟨us',h1,h2⟩:=fill_sound h ps qs _ cs' _ hrest hw hf
    refine⟨us', ?_,h2⟩
    simp only[List.map_cons,Instr.fill,hpl]
    have e1:(a.eval x).cells.size=n:=by have:=hl;simp at this;omega
    rw[if_neg (by simp;omega)]
    rw[← h1]
    congr 1
    -- writing the cells one by one
    have key:∀(l:List Value) (k:Nat) (acc:List Value),k+l.length≤acc.length →
      (l.zipIdx k).foldl (fun (cs:Array Value) (p:Value×Nat)=>cs.setIfInBounds p.2 p.1) acc.toArray=(acc.take k++l++acc.drop (k+l.length)).toArray:=by
     intro l
     induction l with
     | nil=>intro k acc hk;simp
     | cons v l ih =>
      intro k acc hk
      simp only[List.zipIdx_cons,List.foldl_cons]
      simp only[List.setIfInBounds_toArray]
      rw[ih (k+1) (acc.set k v) (by simp at hk ⊢;omega)]
      have:=list_seg_step acc k v l (by simpa using hk)
      simp only[List.length_cons] at this ⊢
      rw[show k+(l.length+1)=k+1+l.length by omega] at this ⊢
      rw[← this]
    have k2:=key (a.eval x).cells.toList off us (by simp;omega)
    rw[← k2,List.zipIdx_eq_map_add,List.foldl_map]
    simp only[← Array.foldl_toList]
    rw[Array.toList_zipIdx]
   ·cases hf
  ·cases hf
theorem run_places {fs:Array Field} {pl:List (Nat×Nat)} (hpl:placesOf P fs.toList=some pl) (w:World) :
  (fs.mapM fun f=>(do pure (f.offset,← sizeOf f.type):Sem (Nat×Nat))).run P w=.ok pl.toArray w:=by
 rw[Array.mapM_eq_mapM_toList]
 have key:∀(l:List Field) (pl:List (Nat×Nat)),placesOf P l=some pl→(l.mapM fun f=>(do pure (f.offset,← sizeOf f.type):Sem (Nat×Nat))).run P w=.ok pl w:=by
  intro l
  induction l with
  | nil=>intro pl h;simp[placesOf] at h;subst h;rfl
  | cons f l ih =>
   intro pl h
   unfold placesOf at h
   rw[List.mapM_cons] at h ⊢
   cases hi:P.info? f.type with
   | none=>simp[hi] at h
   | some i =>
    cases hr:(l.mapM fun f=>(P.info? f.type).map fun i=>(f.offset,i.size)) with
    | none=>simp[hi,hr] at h
    | some pl' =>
     simp[hi,hr] at h
     subst h
     have h3:=ih pl' hr
     simp only[Sem.run_bind,run_sizeOf' hi,Result.andThen_ok,Sem.run_pure,h3]
 have h4:=key fs.toList pl hpl
 simp only[Sem.run_map,h4,Result.andThen_ok]
theorem sim_build_struct (hd:o.dst=ao.d) (hN:∀ n,ao.d=some n→n<N) (t:TypeId) (ps:Array (Nat×Operand)) (z:List AV) (qs:List (Nat×Nat×AOpd)) (ho:o.op=.build t ps) (hao:ao.op=.build z qs) (hz:tZero P t z=true)
  (fs:Array Field) (hu:P.underlying t=some (.struct fs)) (pl:List (Nat×Nat)) (hpl:placesOf P fs.toList=some pl) (hm:mParts (pl[·]?) ps.toList qs=true):Sim P N o C ao:=by
 intro w0 I0 I ρ s a w e K Q h he hK
 unfold eff at he
 rw[hao] at he
 simp only[] at he
 split at he
 ·rename_i cs hcs
  have:=val_ok he;subst this
  obtain⟨v,hrun,hvs⟩:=run_zero (P:=P) hz
  obtain⟨us,h1,h2⟩:=fill_sound h ps.toList qs z cs _ hm (hvs I w _) hcs
  refine close_val h hd hN hK (v:=.agg us) ?_ ?_
  ·have hplaces:=run_places hpl
   simp only[execOp,ho,Instr.build,Sem.run_bind,hrun,run_underlying hu,Result.andThen_ok,hplaces]
   have:(ps.map fun (i,x)=>(i,a.eval x)).toList=ps.toList.map fun (i,x)=>(i,a.eval x):=by simp
   rw[this]
   have e:(fun (x:Nat)=>pl.toArray[x]?)=fun (x:Nat)=>pl[x]? := by funext x;simp
   simp only[Array.toArray_toList] at h1
   rw[e,h1]
   rfl
  ·simp only[VR]
   exact⟨us.toList,by simp,h2⟩
 ·cases he
theorem sim_build_array (hd:o.dst=ao.d) (hN:∀ n,ao.d=some n→n<N) (t:TypeId) (ps:Array (Nat×Operand)) (z:List AV) (qs:List (Nat×Nat×AOpd)) (ho:o.op=.build t ps) (hao:ao.op=.build z qs) (hz:tZero P t z=true)
  (n:Nat) (e:TypeId) (hu:P.underlying t=some (.array n e)) (ie:TypeInfo) (hie:P.info? e=some ie) (hm:mParts (fun i=>some (i*ie.size,ie.size)) ps.toList qs=true):Sim P N o C ao:=by
 intro w0 I0 I ρ s a w e' K Q h he hK
 unfold eff at he
 rw[hao] at he
 simp only[] at he
 split at he
 ·rename_i cs hcs
  have:=val_ok he;subst this
  obtain⟨v,hrun,hvs⟩:=run_zero (P:=P) hz
  obtain⟨us,h1,h2⟩:=fill_sound h ps.toList qs z cs _ hm (hvs I w _) hcs
  refine close_val h hd hN hK (v:=.agg us) ?_ ?_
  ·simp only[execOp,ho,Instr.build,Sem.run_bind,hrun,run_underlying hu,Result.andThen_ok,run_sizeOf' hie]
   have:(ps.map fun (i,x)=>(i,a.eval x)).toList=ps.toList.map fun (i,x)=>(i,a.eval x):=by simp
   rw[this]
   simp only[Array.toArray_toList] at h1
   rw[h1]
   rfl
  ·simp only[VR]
   exact⟨us.toList,by simp,h2⟩
 ·cases he
theorem tSlice_spec {t:TypeId} {sz:Nat} (h:tSlice P t sz=true):∃ e i z,P.underlying t=some (.slice e)∧P.info? e=some i∧i.zero=some z∧i.size=sz∧0<sz∧z.cells.size=sz∧i.bytes≤128:=by
 unfold tSlice at h
 split at h
 ·rename_i e hu
  split at h
  ·rename_i i hi
   split at h
   ·rename_i v hv
    simp at h
    exact⟨e,i,v,hu,hi,hv,h.1.1.1.1,h.1.1.1.2,h.1.1.2,h.1.2⟩
   ·cases h
  ·cases h
 ·cases h
theorem tSlice_lt {t:TypeId} {sz:Nat} (h:tSlice P t sz=true):sz<4096:=by
 unfold tSlice at h
 split at h
 ·split at h
  ·split at h
   ·simp at h
    exact h.2
   ·cases h
  ·cases h
 ·cases h
theorem tSlice_ne {t:TypeId} {sz:Nat} (h:tSlice P t sz=true):sz≠mapTag:=by
 have:=tSlice_lt h
 unfold mapTag
 omega
theorem tSlice_mod {t:TypeId} {sz:Nat} (h:tSlice P t sz=true):sz % 4096=sz:=Nat.mod_eq_of_lt (tSlice_lt h)
theorem tSliceZ_spec {t e:TypeId} {z:List AV} (h:tSliceZ P t z=true) (hu:P.underlying t=some (.slice e)):tZero P e z=true:=by
 unfold tSliceZ at h
 rw[hu] at h
 exact h
theorem close_row (hd:o.dst=ao.d) (hN:∀ n,ao.d=some n→n<N) {d n sz:Nat} {cs:List AV} {vs:Array Value} {ty:TypeId} {K:Act→World→Prop} {Q:Exit→Act→World→Prop} (h:R w0 I0 N I ρ s a w)
  (hK:∀ I' ρ' a' w',R w0 I0 N I' ρ' (app ao.d { v:=some (.own d (s.g d+1) 0 n),nw:=some (d,⟨cs,false,sz⟩) } s) a' w'→K a' w')
  (hr:(execOp a.eval o).run P w=.ok (.value (.slice (some ⟨w.heap.size,0,none⟩) n n)) { w with heap:=w.heap.push (.cells vs ty) }) (hv:VRs I w (modeOf s ρ) cs vs.toList) (hs:vs.size=n*sz) (hn:n≤maxLen) (hne:sz<4096):o.wp P a w K Q:=by
 have hl:=hv.length
 have h1:=h.alloc d w.heap.size sz cs vs ty (by unfold mapTag;omega) (below_push w _) (Nat.le_refl _) (heap_push_new w _) (by simp at hl;omega) (by rw[List.take_of_length_le (by omega)];exact hv) (.inl hne)
 refine wp_of_run hr (hK I (fun b=>if b=d then some (w.heap.size,vs.size) else ρ b) _ _ ?_)
 rw[hd]
 refine h1.putO hN (fun y hy=>?_)
 cases hy
 exact VR_newown (bump_self _ _) (by rw[hlook_hput,if_pos rfl]) (if_pos rfl) (Nat.le_refl _) hn (by rw[Nat.mod_eq_of_lt hne];exact hs.symm)
theorem range_zero (z:Array Value) (n:Nat):((Array.range (n*z.size)).map (fun i=>z[i % z.size]!)).toList=(List.replicate n z.toList).flatten:=by
 apply List.ext_getElem?
 intro i
 simp only[Array.toList_map,Array.toList_range,List.getElem?_map]
 induction n generalizing i with
 | zero=>simp
 | succ n ih =>
  rw[List.replicate_succ,List.flatten_cons,List.getElem?_append]
  by_cases hi:i<z.size
  ·rw[if_pos (by simpa using hi)]
   have h1:i<(n+1)*z.size:=by rw[Nat.succ_mul];omega
   simp[List.getElem?_range h1,Nat.mod_eq_of_lt hi,hi]
  ·rw[if_neg (by simpa using hi)]
   have h2:=ih (i-z.toList.length)
   rw[← h2]
   by_cases h3:i<(n+1)*z.size
   ·have h4:i-z.toList.length<n*z.size:=by rw[Nat.succ_mul] at h3;simp;omega
    rw[List.getElem?_range h3,List.getElem?_range h4]
    simp only[Option.map_some,Array.length_toList]
    have:i % z.size=(i-z.size)%z.size:=by
     rw[Nat.mod_eq_sub_mod (by omega)]
    rw[this]
   ·have h4:¬ (i-z.toList.length<n*z.size):=by rw[Nat.succ_mul] at h3;simp;omega
    rw[List.getElem?_eq_none (by simp;omega),List.getElem?_eq_none (by simp at h4 ⊢;omega)]
theorem sim_mkrow (hd:o.dst=ao.d) (hN:∀ n,ao.d=some n→n<N) (t:TypeId) (len:Nat) (ps:Array (Nat×Operand)) (id sz:Nat) (z:List AV) (qs:List (Nat×Nat×AOpd)) (ho:o.op=.buildSlice t len ps) (hao:ao.op=.mkrow id len sz z qs)
  (ht:tSlice P t sz=true) (hz:tSliceZ P t z=true) (hm:mParts (fun i=>some (i*sz,sz)) ps.toList qs=true) (hlen:len*sz≤16777216):Sim P N o C ao:=by
 intro w0 I0 I ρ s a w e' K Q h he hK
 unfold eff at he
 rw[hao] at he
 simp only[] at he
 obtain⟨e,i,zv,hu,hi,hzv,hsz,hpos,hzs,_⟩:=tSlice_spec ht
 split at he
 ·rename_i cs hcs
  cases he
  obtain⟨v,hrun,hvs⟩:=run_zero (P:=P) (tSliceZ_spec hz hu)
  have hvz:v=zv:=by
   have:=hrun w
   simp[zeroValue,typeInfo,hi,hzv] at this
   exact this.symm
  subst hvz
  have hrep:=VRs_rep (hvs I w (modeOf s ρ)) len
  obtain⟨us,h1,h2⟩:=fill_sound h ps.toList qs _ cs _ hm hrep hcs
  have hus:us.size=len*sz:=by
   have:∀(place:Nat→Option (Nat×Nat)) (l:List (Nat×Value)) (x y:Array Value),Instr.fill place x l=some y→y.size=x.size:=by
    intro place l
    induction l with
    | nil=>intro x y hxy;simp[Instr.fill] at hxy;rw[hxy]
    | cons p l ih =>
     intro x y hxy
     obtain⟨j,u⟩:=p
     simp only[Instr.fill] at hxy
     split at hxy
     ·cases hxy
     ·split at hxy
      ·cases hxy
      ·rw[ih _ _ hxy]
       have:∀(l:List (Value×Nat)) (x:Array Value) (off:Nat),(l.foldl (fun cs (p:Value×Nat)=>cs.setIfInBounds (off+p.2) p.1) x).size=x.size:=by
        intro l
        induction l with
        | nil=>intro x off;rfl
        | cons p l ih=>intro x off;rw[List.foldl_cons,ih];simp
       rw[← Array.foldl_toList]
       exact this _ _ _
   rw[this _ _ _ _ h1]
   have:=hrep.length
   simp[List.length_flatten,hzs]
  refine close_row (o:=o) (ao:=ao) hd hN (vs:=us) (ty:=e) (sz:=sz) h hK ?_ h2 hus (by unfold maxLen;have:len≤len*sz:=Nat.le_mul_of_pos_right _ hpos;omega) (tSlice_lt ht)
  have hps:(ps.map fun (i,x)=>(i,a.eval x)).toList=ps.toList.map fun (i,x)=>(i,a.eval x):=by simp
  by_cases h0:len=0
  ·subst h0
   have hr0:Array.range (0*sz)=#[]:=by rw[Nat.zero_mul];rfl
   simp only[List.replicate_zero,List.flatten_nil] at h1
   simp only[execOp,ho,Instr.buildSlice,Sem.run_bind,run_underlying hu,run_sizeOf' hi,Result.andThen_ok,hps,newRow,hsz,hr0,Array.map_empty]
   rw[if_neg (by omega),if_pos (by omega)]
   simp only[Sem.run_bind,Result.andThen_ok,Sem.run_pure]
   rw[h1]
   rfl
  ·have h0':¬ (len*sz=0):=by
    intro hh
    rcases Nat.mul_eq_zero.1 hh with h|h<;>omega
   have hrz:=range_zero v.cells len
   have harr:(Array.range (len*v.cells.size)).map (fun i=>v.cells[i % v.cells.size]!)=(List.replicate len v.cells.toList).flatten.toArray:=by
    apply Array.ext'
    rw[hrz]
   rw[hzs] at harr
   simp only[execOp,ho,Instr.buildSlice,Sem.run_bind,run_underlying hu,run_sizeOf' hi,Result.andThen_ok,hps,newRow,hsz]
   rw[if_neg (by omega),if_neg h0']
   simp only[Sem.run_bind,hrun,Result.andThen_ok,Sem.run_pure,hzs]
   rw[harr,h1]
   rfl
 ·cases he
theorem sim_nil0 (hd:o.dst=ao.d) (hN:∀ n,ao.d=some n→n<N) (x:Operand) (id sz:Nat) (ho:o.op=.move x∨o.op=.assign x) (hao:ao.op=.nil0 id sz) (hm:mOpd x (.c .nils)=true):Sim P N o C ao:=by
 intro w0 I0 I ρ s a w e K Q h he hK
 unfold eff at he
 rw[hao] at he
 simp only[] at he
 cases he
 have hx:a.eval x=.slice none 0 0:=by
  have:=h.opd hm
  simpa [opv,VR] using this
 have h1:=h.nil0 id sz
 refine wp_of_run (v:=a.eval x) (w':=w) ?_ (hK I (fun b=>if b=id then none else ρ b) _ w ?_)
 ·rcases ho with ho|ho<;>simp[execOp,ho]
 ·rw[hd]
  refine h1.putO hN (fun y hy=>?_)
  cases hy
  rw[hx]
  simp only[VR,modeOf]
  refine⟨⟨_,_,_,rfl⟩,by simp[bump],fun L hL=>?_⟩
  simp[aliveA,bump,hlook_hput] at hL
  subst hL
  simp
theorem sim_store (hd:o.dst=ao.d) (hN:∀ n,ao.d=some n→n<N) (t:TypeId) (x y:Operand) (x' y':AOpd) (n:Nat) (ho:o.op=.store t x y) (hao:ao.op=.store x' n y') (hx:mOpd x x'=true) (hy:mOpd y y'=true)
  (i:TypeInfo) (hi:P.info? t=some i) (hn:i.size=n):Sim P N o C ao:=by
 intro w0 I0 I ρ s a w e K Q h he hK
 unfold eff at he
 rw[hao] at he
 simp only[] at he
 have hxv:=h.opd hx
 split at he
 ·rename_i b g p hp
  rw[hp] at hxv
  split at he
  ·rename_i k vs hk hvs
   split at he
   ·rename_i hc
    obtain⟨h1,h2,h3,h4⟩:=hc
    cases he
    obtain⟨r,σ,hρ,hav⟩:=h.ptr hk hxv
    obtain⟨hg,hl,_,hok⟩:=h.blk hk
    rw[hρ] at hok
    obtain⟨hr0,_,hnf,hlen,arr,ty,hheap,hsz,hvv⟩:=hok
    have hcv:=cells_VR hvs (h.opd hy)
    have hcl:=hcv.length
    have hcl2:=hvv.length
    have hone:=VRs_oneCell hcv h4
    simp at hcl hcl2
    have hst:=run_storeCells_at P r p ty (a.eval y).cells.toList 0 arr w hheap (by simp;omega) hone
    simp only[Nat.add_zero] at hst
    have hw2:=hvv.wr hcv p
    have hR:=h.set hl h3 (blkAt_live ‹_›).2 hρ (wr k.cs p vs) (arr.toList.take p++(a.eval y).cells.toList++arr.toList.drop (p+(a.eval y).cells.toList.length)).toArray ty
     (w':=w.setRow r (arr.toList.take p++(a.eval y).cells.toList++arr.toList.drop (p+(a.eval y).cells.toList.length)).toArray)
     rfl rfl rfl (by simp[World.setRow]) (fun j hj=>setRow_other _ _ _ _ hj) (setRow_heap w r arr _ ty (0,0) hheap) (by simp;omega) (by simp[wr];omega) (by
      have e:(wr k.cs p vs).length=k.cs.length:=by simp[wr];omega
      have e2:((arr.toList.take p++(a.eval y).cells.toList++arr.toList.drop (p+(a.eval y).cells.toList.length)).toArray.toList).take (wr k.cs p vs).length =
        ((arr.toList.take k.cs.length).take p++(a.eval y).cells.toList++(arr.toList.take k.cs.length).drop (p+(a.eval y).cells.toList.length)):=by
       rw[e]
       simp only[List.take_take,List.take_append,List.length_take,List.length_append,Array.length_toList]
       have:min p k.cs.length=p:=by omega
       rw[Nat.min_comm k.cs.length p,this]
       have e5:List.take (k.cs.length-min p arr.size) (a.eval y).cells.toList=(a.eval y).cells.toList:=List.take_of_length_le (by simp;omega)
       rw[e5,List.drop_take]
       congr 2
       omega
      rw[e2]
      exact hw2) hheap (.inr (.inr (by simp[wr];omega)))
    refine wp_of_skip (w':=w.setRow r (arr.toList.take p++(a.eval y).cells.toList++arr.toList.drop (p+(a.eval y).cells.toList.length)).toArray) ?_ (hK I ρ _ _ ?_)
    ·simp only[execOp,ho,Instr.storeAt,hav,Instr.sureAddr,storeVar,Sem.run_bind,Sem.run_pure,Result.andThen_ok,run_sizeOf' hi]
     rw[if_neg (by omega)]
     rw[hst]
     rfl
    ·rw[hd]
     exact hR.putO hN (fun y hy=>by cases hy)
   ·cases he
  ·cases he
 ·cases he
theorem ptr_moved {s:St} {b g p q:Nat} {k:Blk} {fp:List Nat} (h:R w0 I0 N I ρ s a w) (hk:blkAt s fp b g=some k) {r σ:Nat} (hρ:ρ b=some (r,σ)):VR I w (modeOf s ρ) (.ptr b g (p+q)) (.pointer (some ⟨r,p+q,none⟩)):=by
 obtain⟨hg,_,hA,_⟩:=h.blk hk
 simp only[VR,modeOf]
 refine⟨⟨_,rfl⟩,by omega,fun L hL=>?_⟩
 rw[hA] at hL
 cases hL
 exact⟨r,σ,hρ,rfl⟩
theorem sim_fad (hd:o.dst=ao.d) (hN:∀ n,ao.d=some n→n<N) (t:TypeId) (x:Operand) (f:Nat) (x':AOpd) (off:Nat) (ho:o.op=.fieldAddr t x f) (hao:ao.op=.fad x' off) (hx:mOpd x x'=true)
  (fs:Array Field) (hu:P.underlying t=some (.struct fs)) (fd:Field) (hf:fs[f]? = some fd) (hoff:fd.offset=off) (i:TypeInfo) (hi:P.info? fd.type=some i) (h0:0<i.size):Sim P N o C ao:=by
 intro w0 I0 I ρ s a w e K Q h he hK
 unfold eff at he
 rw[hao] at he
 simp only[] at he
 have hxv:=h.opd hx
 have hne:¬ i.size=0:=by omega
 split at he
 ·rename_i b g p hp
  rw[hp] at hxv
  split at he
  ·rename_i k hk
   have:=val_ok he;subst this
   obtain⟨r,σ,hρ,hav⟩:=h.ptr hk hxv
   refine close_val h hd hN hK (v:=.pointer (some ⟨r,p+off,none⟩)) ?_ (ptr_moved h hk hρ)
   simp[execOp,ho,Instr.fieldAt,run_underlying hu,hf,hav,Instr.sureAddr,fieldPlace,run_sizeOf' hi,hne,hoff,Addr_add]
  ·cases he
 ·rename_i p cs hp
  rw[hp] at hxv
  have:=val_ok he;subst this
  simp only[VR] at hxv
  obtain⟨b,o',us,hav,hI,hrow,hvs⟩:=hxv
  refine close_val h hd hN hK (v:=.pointer (some ⟨b,o'+(p+off),none⟩)) ?_ ?_
  ·simp[execOp,ho,Instr.fieldAt,run_underlying hu,hf,hav,Instr.sureAddr,fieldPlace,run_sizeOf' hi,hne,hoff,Addr_add,Nat.add_assoc]
  ·simp only[VR]
   exact⟨b,o',us,rfl,hI,hrow,hvs⟩
 ·cases he
theorem offOf_spec {n:Int} {len sz q:Nat} (h:offOf n len sz=some q):0≤n∧n<len∧q=n.toNat*sz:=by
 unfold offOf at h
 split at h
 ·rename_i hc;cases h;exact⟨hc.1,hc.2,rfl⟩
 ·cases h
theorem sim_iad (hd:o.dst=ao.d) (hN:∀ n,ao.d=some n→n<N) (t:TypeId) (x y:Operand) (x' y':AOpd) (sz len:Nat) (ho:o.op=.indexAddr t x y) (hao:ao.op=.iad x' y' sz len) (hx:mOpd x x'=true) (hy:mOpd y y'=true)
  (e:TypeId) (hu:P.underlying t=some (.array len e)) (i:TypeInfo) (hi:P.info? e=some i) (hsz:i.size=sz):Sim P N o C ao:=by
 intro w0 I0 I ρ s a w ee K Q h he hK
 unfold eff at he
 rw[hao] at he
 simp only[] at he
 have hxv:=h.opd hx
 have hyv:=h.opd hy
 split at he
 ·rename_i kk n hn
  rw[hn] at hyv
  have hav2:=VR_int hyv
  split at he
  ·rename_i q hq
   obtain⟨h1,h2,rfl⟩:=offOf_spec hq
   split at he
   ·rename_i b g p hp
    rw[hp] at hxv
    split at he
    ·rename_i k hk
     have:=val_ok he;subst this
     obtain⟨r,σ,hρ,hav⟩:=h.ptr hk hxv
     refine close_val h hd hN hK (v:=.pointer (some ⟨r,p+n.toNat*sz,none⟩)) ?_ (ptr_moved h hk hρ)
     simp[execOp,ho,Instr.indexAt,run_underlying hu,hav,hav2,Instr.sureAddr,asIntOf,h1,h2,run_sizeOf' hi,hsz,Addr_add]
    ·cases he
   ·rename_i p cs hp
    rw[hp] at hxv
    have:=val_ok he;subst this
    simp only[VR] at hxv
    obtain⟨b,o',us,hav,hI,hrow,hvs⟩:=hxv
    refine close_val h hd hN hK (v:=.pointer (some ⟨b,o'+(p+n.toNat*sz),none⟩)) ?_ ?_
    ·simp[execOp,ho,Instr.indexAt,run_underlying hu,hav,hav2,Instr.sureAddr,asIntOf,h1,h2,run_sizeOf' hi,hsz,Addr_add,Nat.add_assoc]
    ·simp only[VR]
     exact⟨b,o',us,rfl,hI,hrow,hvs⟩
   ·cases he
  ·cases he
 ·cases he
theorem sim_ias (hd:o.dst=ao.d) (hN:∀ n,ao.d=some n→n<N) (t:TypeId) (x y:Operand) (x' y':AOpd) (sz:Nat) (ho:o.op=.indexAddr t x y) (hao:ao.op=.ias x' y' sz) (hx:mOpd x x'=true) (hy:mOpd y y'=true)
  (e:TypeId) (hu:P.underlying t=some (.slice e)) (i:TypeInfo) (hi:P.info? e=some i) (hsz:i.size=sz):Sim P N o C ao:=by
 intro w0 I0 I ρ s a w ee K Q h he hK
 unfold eff at he
 rw[hao] at he
 simp only[] at he
 have hxv:=h.opd hx
 have hyv:=h.opd hy
 split at he
 ·rename_i kk n hn
  rw[hn] at hyv
  have hav2:=VR_int hyv
  split at he
  ·rename_i b g p len hp
   rw[hp] at hxv
   split at he
   ·rename_i k q hk hq
    obtain⟨h1,h2,rfl⟩:=offOf_spec hq
    have:=val_ok he;subst this
    obtain⟨hg,hl,hA,_⟩:=h.blk hk
    simp only[VR,modeOf] at hxv
    have hx2:=hxv.2.2 _ hA
    simp only[] at hx2
    cases hρ:ρ b with
    | none =>
     rw[hρ] at hx2
     obtain⟨_,h3,_⟩:=hx2
     omega
    | some rs =>
     obtain⟨r,σ⟩:=rs
     rw[hρ] at hx2
     obtain⟨ad,cap,hav,_,_,h3⟩:=hx2
     rcases h3 with⟨h3,_⟩|⟨rfl,_⟩
     ·omega
     ·refine close_val h hd hN hK (v:=.pointer (some ⟨r,p+n.toNat*sz,none⟩)) ?_ (ptr_moved h hk hρ)
      simp[execOp,ho,Instr.indexAt,run_underlying hu,hav,hav2,asIntOf,h1,h2,run_sizeOf' hi,hsz,Addr_add]
   ·cases he
  ·rename_i len cs hp
   rw[hp] at hxv
   split at he
   ·rename_i q hq
    obtain⟨h1,h2,rfl⟩:=offOf_spec hq
    have:=val_ok he;subst this
    simp only[VR] at hxv
    rcases hxv with⟨h3,_⟩|⟨b,off,cap,us,hav,_,_,hI,hrow,hvs⟩
    ·omega
    ·refine close_val h hd hN hK (v:=.pointer (some ⟨b,off+n.toNat*sz,none⟩)) ?_ ?_
     ·simp[execOp,ho,Instr.indexAt,run_underlying hu,hav,hav2,asIntOf,h1,h2,run_sizeOf' hi,hsz,Addr_add]
     ·simp only[VR]
      exact⟨b,off,us,rfl,hI,hrow,hvs⟩
   ·cases he
  ·cases he
 ·cases he
theorem run_part {t:TypeId} {n:Nat} {agg:Bool} (ht:tIs P t n agg=true) {xs:List AV} {us:List Value} {off:Nat} {x:AV} (hx:rd xs off n agg=some x) (hv:VRs I w M xs us) :
  ∃ v,(∀ w,(part t us.toArray off).run P w=.ok v w)∧VR I w M x v:=by
 obtain⟨⟨i,hi,hn⟩,ha,h1⟩:=tIs_spec ht
 obtain⟨hl,hA,hB⟩:=rd_VR hx hv h1
 have hlen:=hv.length
 have hle:off+n≤xs.length:=by
  unfold rd at hx
  split at hx
  ·assumption
  ·cases hx
 cases agg with
 | true =>
  refine⟨.agg ((us.drop off).take n).toArray,fun w=>?_,hA rfl⟩
  simp only[part,Sem.run_bind,ha,Result.andThen_ok,if_true,run_sizeOf' hi,Sem.run_pure,hn]
  congr 2
  apply Array.ext'
  simp[Array.toList_extract,List.extract_eq_take_drop]
 | false =>
  have h2:=h1 rfl
  subst h2
  have hlt:off<us.length:=by omega
  have hd:(us.drop off).take 1=[us[off]]:=by
   rw[List.drop_eq_getElem_cons hlt]
   rfl
  refine⟨us[off],fun w=>?_,hB rfl _ hd⟩
  simp[part,ha,hlt]
theorem sim_fld (hd:o.dst=ao.d) (hN:∀ n,ao.d=some n→n<N) (t:TypeId) (x:Operand) (f:Nat) (x':AOpd) (off n:Nat) (agg:Bool) (ho:o.op=.field t x f) (hao:ao.op=.fld x' off n agg) (hx:mOpd x x'=true)
  (fs:Array Field) (hu:P.underlying t=some (.struct fs)) (fd:Field) (hf:fs[f]? = some fd) (hoff:fd.offset=off) (ht:tIs P fd.type n agg=true):Sim P N o C ao:=by
 intro w0 I0 I ρ s a w e K Q h he hK
 unfold eff at he
 rw[hao] at he
 simp only[] at he
 have hxv:=h.opd hx
 split at he
 ·rename_i cs hp
  rw[hp] at hxv
  obtain⟨y,hy,rfl⟩:=valO_ok he
  obtain⟨us,hav,hvs⟩:=VR_agg hxv
  obtain⟨v,hrun,hv⟩:=run_part (P:=P) ht hy hvs
  refine close_val h hd hN hK (v:=v) ?_ hv
  simp[execOp,ho,Instr.field,run_underlying hu,hf,hav,asAgg,hoff,hrun]
 ·cases he
theorem sim_idx (hd:o.dst=ao.d) (hN:∀ n,ao.d=some n→n<N) (t:TypeId) (x y:Operand) (x' y':AOpd) (sz len:Nat) (agg:Bool) (ho:o.op=.index t x y) (hao:ao.op=.idx x' y' sz len agg) (hx:mOpd x x'=true) (hy:mOpd y y'=true)
  (e:TypeId) (hu:P.underlying t=some (.array len e)) (ht:tIs P e sz agg=true):Sim P N o C ao:=by
 intro w0 I0 I ρ s a w ee K Q h he hK
 unfold eff at he
 rw[hao] at he
 simp only[] at he
 have hxv:=h.opd hx
 have hyv:=h.opd hy
 split at he
 ·rename_i cs kk n hp hn
  rw[hp] at hxv
  rw[hn] at hyv
  have hav2:=VR_int hyv
  split at he
  ·rename_i q hq
   obtain⟨h1,h2,rfl⟩:=offOf_spec hq
   obtain⟨z,hz,rfl⟩:=valO_ok he
   obtain⟨us,hav,hvs⟩:=VR_agg hxv
   obtain⟨v,hrun,hv⟩:=run_part (P:=P) ht hz hvs
   obtain⟨⟨i,hi,hn'⟩,_,_⟩:=tIs_spec ht
   refine close_val h hd hN hK (v:=v) ?_ hv
   simp[execOp,ho,Instr.index,run_underlying hu,hav,hav2,asIntOf,h1,h2,run_sizeOf' hi,hn',hrun]
  ·cases he
 ·cases he
theorem run_ibin {op:BinOp} {k:IntKind} {a b:Int} {x:AV} {t:TypeId} (hs:op≠.shl) (hs2:op≠.shr) (hx:ibin op k a b=some x) :
  ∃ v,(∀ w,(binOp op t (.int k a) (.int k b)).run P w=.ok v w)∧VR I w M x v:=by
 cases op<;>simp only[ibin,Option.some.injEq,reduceCtorEq] at hx
 case quo =>
  split at hx
  ·cases hx
  ·rename_i hb
   cases hx
   exact⟨.int k (k.wrap (a.tdiv b)),fun w=>by simp[binOp,Op.intDiv,hb],by simp[VR]⟩
 case rem =>
  split at hx
  ·cases hx
  ·rename_i hb
   cases hx
   exact⟨.int k (a.tmod b),fun w=>by simp[binOp,Op.intDiv,hb],by simp[VR]⟩
 case eql=>subst hx;exact⟨.bool (a==b),fun w=>by simp[binOp,Op.intCmp],by simp only[VR];congr 1⟩
 case neq=>subst hx;exact⟨.bool (a != b),fun w=>by simp[binOp,Op.intCmp],by simp only[VR];congr 1;rw[Bool.eq_iff_iff];simp⟩
 case lss=>subst hx;exact⟨.bool (decide (a<b)),fun w=>by simp[binOp,Op.intCmp],by simp[VR]⟩
 case leq=>subst hx;exact⟨.bool (decide (a≤b)),fun w=>by simp[binOp,Op.intCmp],by simp[VR]⟩
 case gtr=>subst hx;exact⟨.bool (decide (a>b)),fun w=>by simp[binOp,Op.intCmp],by simp[VR]⟩
 case geq=>subst hx;exact⟨.bool (decide (a≥b)),fun w=>by simp[binOp,Op.intCmp],by simp[VR]⟩
 case add=>subst hx;exact⟨.int k (k.wrap (a+b)),fun w=>by simp[binOp,Op.intArith],by simp[VR]⟩
 case sub=>subst hx;exact⟨.int k (k.wrap (a-b)),fun w=>by simp[binOp,Op.intArith],by simp[VR]⟩
 case mul=>subst hx;exact⟨.int k (k.wrap (a*b)),fun w=>by simp[binOp,Op.intArith],by simp[VR]⟩
 case and=>subst hx;exact⟨_,fun w=>by simp only[binOp,Op.intBits,if_neg (show ¬ (k≠k) from fun h=>h rfl)];rfl,by simp only[VR]⟩
 case or=>subst hx;exact⟨_,fun w=>by simp only[binOp,Op.intBits,if_neg (show ¬ (k≠k) from fun h=>h rfl)];rfl,by simp only[VR]⟩
 case xor=>subst hx;exact⟨_,fun w=>by simp only[binOp,Op.intBits,if_neg (show ¬ (k≠k) from fun h=>h rfl)];rfl,by simp only[VR]⟩
 case andNot=>subst hx;exact⟨_,fun w=>by simp only[binOp,Op.intBits,if_neg (show ¬ (k≠k) from fun h=>h rfl)];rfl,by simp only[VR]⟩
theorem run_shift {op:BinOp} {k k':IntKind} {a b:Int} {x:AV} {t:TypeId} (hx:shift op k a b=some x) :
  ∃ v,(∀ w,(binOp op t (.int k a) (.int k' b)).run P w=.ok v w)∧VR I w M x v:=by
 unfold shift at hx
 split at hx
 ·cases hx
 ·rename_i hb
  cases op<;>simp only[Option.some.injEq,reduceCtorEq] at hx
  case shl=>subst hx;exact⟨.int k (k.wrap (a*2^(min b.toNat k.bits))),fun w=>by simp[binOp,Op.shift,hb],by simp[VR]⟩
  case shr=>subst hx;exact⟨.int k (a.fdiv (2^(min b.toNat k.bits))),fun w=>by simp[binOp,Op.shift,hb],by simp[VR]⟩
theorem eqGuard_flat {op:BinOp} {t:TypeId} {x y:Operand} {u v:Value} (h:match u with|.nilIface|.agg _=>False|_=>True) (w:World):(eqGuard op t x y u v).run P w=.ok () w:=by
 unfold eqGuard
 cases u<;>first|exact h.elim|(cases op<;>rfl)
theorem run_equal_bool {t:TypeId} (ht:P.underlying t=some .bool) (b b':Bool) (w:World):(Op.equal t (.bool b) (.bool b')).run P w=.ok (b==b') w:=by
 have key:∀ d,(Op.equalIn (d+1) t (.bool b) (.bool b')).run P w=.ok (b==b') w:=by
  intro d
  rw[Op.equalIn]
  simp only[Sem.run_bind,run_underlying ht,Result.andThen_ok]
  rfl
 exact key 9999
theorem sim_bin (hd:o.dst=ao.d) (hN:∀ n,ao.d=some n→n<N) (op:BinOp) (t t':TypeId) (x y:Operand) (x' y':AOpd) (ho:o.op=.binOp op t x y t') (hao:ao.op=.bin op x' y') (hx:mOpd x x'=true) (hy:mOpd y y'=true):Sim P N o C ao:=by
 intro w0 I0 I ρ s a w e K Q h he hK
 unfold eff at he
 rw[hao] at he
 simp only[] at he
 obtain⟨z,hz,rfl⟩:=valO_ok he
 have hxv:=h.opd hx
 have hyv:=h.opd hy
 revert hz hxv hyv
 generalize opv s x'=u
 generalize opv s y'=u'
 intro hz hxv hyv
 have key:∃ v,(∀ w,(binOp op t (a.eval x) (a.eval y)).run P w=.ok v w)∧(∀ w,(eqGuard op t x y (a.eval x) (a.eval y)).run P w=.ok () w)∧VR I w (modeOf s ρ) z v:=by
  unfold bin2 at hz
  split at hz
  ·rename_i k n k' n'
   have e1:=VR_int hxv
   have e2:=VR_int hyv
   rw[e1,e2]
   have hg:∀ w,(eqGuard op t x y (.int k n) (.int k' n')).run P w=.ok () w:=fun w=>eqGuard_flat (by trivial) w
   split at hz
   ·obtain⟨v,h1,h2⟩:=run_shift (P:=P) (t:=t) hz
    exact⟨v,h1,hg,h2⟩
   ·obtain⟨v,h1,h2⟩:=run_shift (P:=P) (t:=t) hz
    exact⟨v,h1,hg,h2⟩
   ·rename_i hn1 hn2
    split at hz
    ·rename_i hk
     subst hk
     obtain⟨v,h1,h2⟩:=run_ibin (P:=P) (t:=t) hn1 hn2 hz
     exact⟨v,h1,hg,h2⟩
    ·cases hz
  ·cases hz
 obtain⟨v,h1,h2,h3⟩:=key
 refine close_val h hd hN hK (v:=v) ?_ h3
 simp[execOp,ho,h1,h2]
theorem sim_eqb (hd:o.dst=ao.d) (hN:∀ n,ao.d=some n→n<N) (neg:Bool) (t t':TypeId) (x y:Operand) (x' y':AOpd) (ho:o.op=.binOp (if neg then .neq else .eql) t x y t') (hao:ao.op=.eqb neg x' y') (hx:mOpd x x'=true) (hy:mOpd y y'=true)
  (ht:P.underlying t=some .bool):Sim P N o C ao:=by
 intro w0 I0 I ρ s a w e K Q h he hK
 unfold eff at he
 rw[hao] at he
 simp only[] at he
 have hxv:=h.opd hx
 have hyv:=h.opd hy
 split at he
 ·rename_i b b' hb hb'
  rw[hb] at hxv
  rw[hb'] at hyv
  have:=val_ok he;subst this
  have e1:=VR_bool hxv
  have e2:=VR_bool hyv
  have hg:∀ op w,(eqGuard op t x y (.bool b) (.bool b')).run P w=.ok () w:=fun op w=>eqGuard_flat (by trivial) w
  refine close_val h hd hN hK (v:=.bool (if neg then b != b' else b==b')) ?_ (by simp[VR])
  cases neg
  ·simp[execOp,ho,e1,e2,hg,binOp,run_equal_bool ht]
  ·simp[execOp,ho,e1,e2,hg,binOp,run_equal_bool ht,bne]
 ·cases he
theorem sim_un (hd:o.dst=ao.d) (hN:∀ n,ao.d=some n→n<N) (op:UnOp) (t:TypeId) (x:Operand) (x':AOpd) (ho:o.op=.unOp op t x) (hao:ao.op=.un op x') (hx:mOpd x x'=true):Sim P N o C ao:=by
 intro w0 I0 I ρ s a w e K Q h he hK
 unfold eff at he
 rw[hao] at he
 simp only[] at he
 obtain⟨z,hz,rfl⟩:=valO_ok he
 have hxv:=h.opd hx
 revert hz hxv
 generalize opv s x'=u
 intro hz hxv
 unfold un1 at hz
 split at hz
 ·rename_i k n
  have e1:=VR_int hxv
  split at hz
  ·cases hz
   refine close_val h hd hN hK (v:=.int k (k.wrap (0-n))) ?_ (by simp[VR])
   simp[execOp,ho,e1,Op.unary,Op.intArith]
  ·cases hz
 ·rename_i b
  have e1:=VR_bool hxv
  split at hz
  ·cases hz
   refine close_val h hd hN hK (v:=.bool (!b)) ?_ (by simp[VR])
   simp[execOp,ho,e1,Op.unary]
  ·cases hz
 ·cases hz
theorem sim_conv (hd:o.dst=ao.d) (hN:∀ n,ao.d=some n→n<N) (t t':TypeId) (x:Operand) (k:IntKind) (x':AOpd) (ho:o.op=.convert t t' x) (hao:ao.op=.conv k x') (hx:mOpd x x'=true) (ht:P.underlying t'=some (.int k)) (ht0:∃ k0,P.underlying t=some (.int k0)):Sim P N o C ao:=by
 intro w0 I0 I ρ s a w e K Q h he hK
 unfold eff at he
 rw[hao] at he
 simp only[] at he
 have hxv:=h.opd hx
 obtain⟨k0,ht0⟩:=ht0
 split at he
 ·rename_i kk n hn
  rw[hn] at hxv
  have:=val_ok he;subst this
  have e1:=VR_int hxv
  refine close_val h hd hN hK (v:=.int k (k.wrap n)) ?_ (by simp[VR])
  simp[execOp,ho,e1,convert,run_underlying ht,run_underlying ht0,Conv.intToInt]
 ·cases he
theorem sim_ext (hd:o.dst=ao.d) (hN:∀ n,ao.d=some n→n<N) (x:Operand) (i:Nat) (x':AOpd) (ho:o.op=.extract x i) (hao:ao.op=.ext x' i) (hx:mOpd x x'=true):Sim P N o C ao:=by
 intro w0 I0 I ρ s a w e K Q h he hK
 unfold eff at he
 rw[hao] at he
 simp only[] at he
 have hxv:=h.opd hx
 split at he
 ·rename_i vs hn
  rw[hn] at hxv
  obtain⟨z,hz,rfl⟩:=valO_ok he
  obtain⟨us,hav,hvs⟩:=VR_tup hxv
  obtain⟨v,hv,hr⟩:=hvs.get i z hz
  refine close_val h hd hN hK (v:=v) ?_ hr
  simp[execOp,ho,hav,Instr.extract,hv]
 ·cases he
theorem own_len {b g p n:Nat} {k:Blk} {fp:List Nat} {v:Value} (h:R w0 I0 N I ρ s a w) (hk:blkAt s fp b g=some k) (hv:VR I w (modeOf s ρ) (.own b g p n) v):(∃ ad cap,v=.slice ad n cap∧n≤cap)∧n≤maxN:=by
 obtain⟨hg,hl,hA,_⟩:=h.blk hk
 simp only[VR,modeOf] at hv
 have hx2:=hv.2.2 _ hA
 simp only[] at hx2
 cases hρ:ρ b with
 | none =>
  rw[hρ] at hx2
  obtain⟨h1,h2,_⟩:=hx2
  subst h2
  exact⟨⟨none,0,h1,Nat.le_refl _⟩,by simp⟩
 | some rs =>
  obtain⟨r,σ⟩:=rs
  rw[hρ] at hx2
  obtain⟨ad,cap,h1,h2,h3,_⟩:=hx2
  exact⟨⟨ad,cap,h1,h2⟩,by unfold maxN;unfold maxLen at h3;omega⟩
theorem lst_len {n:Nat} {xs:List AV} {v:Value} (hv:VR I w M (.lst n xs) v):(∃ ad cap,v=.slice ad n cap)∧n≤maxN:=by
 simp only[VR] at hv
 rcases hv with⟨rfl,_,ad,c,rfl⟩|⟨b,off,cap,cs,rfl,h1,h2,_⟩
 ·exact⟨⟨ad,c,rfl⟩,by simp⟩
 ·exact⟨⟨_,cap,rfl⟩,by unfold maxN;unfold maxLen at h2;omega⟩
theorem sim_len (hd:o.dst=ao.d) (hN:∀ n,ao.d=some n→n<N) (t:TypeId) (x:Operand) (x':AOpd) (ho:o.op=.call { callee:=.builtin .len,args:=#[x],argTypes:=#[t] }) (hao:ao.op=.len x') (hx:mOpd x x'=true) (e0:TypeId) (ht:P.underlying t=some (.slice e0)):Sim P N o C ao:=by
 intro w0 I0 I ρ s a w e K Q h he hK
 unfold eff at he
 rw[hao] at he
 simp only[] at he
 have hxv:=h.opd hx
 have run:∀ ad n cap,a.eval x=.slice ad n cap→(execOp a.eval o).run P w=.ok (.value (.int .i64 n)) w:=fun ad n cap hv=>by
  simp[execOp,ho,resolve,invoke,builtin,Builtin.len_,run_underlying ht,hv,goInt]
 split at he
 ·rename_i b g p n hp
  rw[hp] at hxv
  split at he
  ·rename_i k hk
   split at he
   ·have:=val_ok he;subst this
    obtain⟨⟨ad,cap,h1,_⟩,_⟩:=own_len h hk hxv
    exact close_val h hd hN hK (run ad n cap h1) (by simp[VR])
   ·cases he
  ·cases he
 ·rename_i n xs hp
  rw[hp] at hxv
  split at he
  ·have:=val_ok he;subst this
   obtain⟨⟨ad,cap,h1⟩,_⟩:=lst_len hxv
   exact close_val h hd hN hK (run ad n cap h1) (by simp[VR])
  ·cases he
 ·rename_i hp
  rw[hp] at hxv
  have:=val_ok he;subst this
  simp only[VR] at hxv
  exact close_val h hd hN hK (run none 0 0 hxv) (by simp[VR])
 ·cases he
theorem len_novac (x:Operand) (x':AOpd) (hao:ao.op=.len x') (hx:mOpd x x'=true) {w0:Base} {I0 I:Nat→Prop} {ρ:Nat→Place} {s:St} {a:Act} {w:World} (h:R w0 I0 N I ρ s a w):eff C s ao≠.vac:=by
 intro he
 unfold eff at he
 rw[hao] at he
 simp only[] at he
 have hxv:=h.opd hx
 split at he
 ·rename_i b g p n hp
  rw[hp] at hxv
  split at he
  ·rename_i k hk
   split at he
   ·cases he
   ·rename_i hn
    exact hn (own_len h hk hxv).2
  ·cases he
 ·rename_i n xs hp
  rw[hp] at hxv
  split at he
  ·cases he
  ·rename_i hn
   exact hn (lst_len hxv).2
 ·cases he
 ·cases he
theorem sim_mnmx (hd:o.dst=ao.d) (hN:∀ n,ao.d=some n→n<N) (mx:Bool) (ts:Array TypeId) (x y:Operand) (x' y':AOpd) (ho:o.op=.call { callee:=.builtin (if mx then .max else .min),args:=#[x,y],argTypes:=ts }) (hao:ao.op=.mnmx mx x' y') (hx:mOpd x x'=true) (hy:mOpd y y'=true):Sim P N o C ao:=by
 intro w0 I0 I ρ s a w e K Q h he hK
 unfold eff at he
 rw[hao] at he
 simp only[] at he
 have hxv:=h.opd hx
 have hyv:=h.opd hy
 split at he
 ·rename_i k n k' n' hn hn'
  rw[hn] at hxv
  rw[hn'] at hyv
  split at he
  ·rename_i hk
   subst hk
   have:=val_ok he;subst this
   have e1:=VR_int hxv
   have e2:=VR_int hyv
   refine close_val h hd hN hK (v:=.int k (if mx then (if n'>n then n' else n) else (if n'<n then n' else n))) ?_ (by simp[VR])
   cases mx
   ·simp[execOp,ho,resolve,invoke,builtin,Builtin.min_,Builtin.min2,e1,e2]
   ·simp[execOp,ho,resolve,invoke,builtin,Builtin.max_,Builtin.max2,e1,e2]
  ·cases he
 ·cases he
theorem sim_chk (hd:o.dst=ao.d) (hN:∀ n,ao.d=some n→n<N) (x:Operand) (x':AOpd) (ho:o.op=.nilCheck x) (hao:ao.op=.chk x') (hx:mOpd x x'=true):Sim P N o C ao:=by
 intro w0 I0 I ρ s a w e K Q h he hK
 unfold eff at he
 rw[hao] at he
 simp only[] at he
 have hxv:=h.opd hx
 split at he
 ·rename_i b g p hp
  have hxv':=hxv
  rw[hp] at hxv
  split at he
  ·rename_i k hk
   have:=val_ok he;subst this
   obtain⟨r,σ,hρ,hav⟩:=h.ptr hk hxv
   refine close_val h hd hN hK (v:=a.eval x) ?_ hxv
   simp[execOp,ho,hav]
  ·cases he
 ·rename_i p cs hp
  rw[hp] at hxv
  have:=val_ok he;subst this
  have hxv':=hxv
  simp only[VR] at hxv
  obtain⟨b,off,us,hav,_⟩:=hxv
  refine close_val h hd hN hK (v:=a.eval x) ?_ hxv'
  simp[execOp,ho,hav]
 ·cases he
end ops
end
end Go.Am
namespace Go.Am
set_option linter.unusedSimpArgs false
set_option linter.unusedVariables false
open Go.RowKit
section
variable {P:Program} {w0:Base} {I0:Nat→Prop} {N:Nat} {I:Nat→Prop} {ρ:Nat→Place} {s:St} {a:Act} {w:World} {M:Option Mode}
theorem frzI_sub {ids ids':List Nat} (h:∀ b∈ids,b∈ids'):∀ x,frzI I ρ s ids x→frzI I ρ s ids' x:=by
 rintro x (hx|⟨b,k,σ,hb,hk,hρ⟩)
 ·exact .inl hx
 ·exact .inr ⟨b,k,σ,h b hb,hk,hρ⟩
theorem VR_none_up {I':Nat→Prop} (hI:∀ b,I b→I' b) {x:AV} {v:Value} (M':Option Mode) (h:VR I w none x v):VR I' w M' x v:=VR.mono hI (fun _ _ _=>rfl) x v (M:=none) (M':=M') trivial h
theorem mapO_sound {f:AV→Option (AV×List Nat)} {I2:List Nat→Nat→Prop} (h2:∀ ids ids' x,(∀ b∈ids,b∈ids')→I2 ids x→I2 ids' x)
  (hf:∀ x v y fz,f x=some (y,fz)→VR I w M x v→VR (I2 fz) w none y v):∀(xs ys:List AV) (fz:List Nat) (vs:List Value),mapO f xs=some (ys,fz)→VRs I w M xs vs→VRs (I2 fz) w none ys vs
 | [],ys,fz,[],h,_=>by simp[mapO] at h;obtain⟨rfl,rfl⟩:=h;simp[VRs]
 | [],_,_,_::_,_,h=>by simp[VRs] at h
 | _::_,_,_,[],_,h=>by simp[VRs] at h
 | x::xs,ys,fz,v::vs,h,hv=>by
  simp only[VRs] at hv
  simp only[mapO] at h
  split at h
  ·rename_i y g ys' gs h3 h4
   cases h
   simp only[VRs]
   refine⟨?_, ?_⟩
   ·exact VR.mono (fun b hb=>h2 _ _ b (fun c hc=>List.mem_append_left _ hc) hb) (fun _ _ _=>rfl) _ _ (M:=none) trivial (hf x v y g h3 hv.1)
   ·exact VRs.mono (fun b hb=>h2 _ _ b (fun c hc=>List.mem_append_right _ hc) hb) (fun _ _ _=>rfl) _ _ (M:=none) trivial (mapO_sound h2 hf xs ys' gs vs h4 hv.2)
  ·cases h
theorem pure1_sound (h:R w0 I0 N I ρ s a w) {fp:List Nat}:∀(m:Nat) (x:AV) (v:Value) (y:AV) (fz:List Nat),pure1 s fp m x=some (y,fz)→VR I w (modeOf s ρ) x v→VR (frzI I ρ s fz) w none y v:=by
 have hle:∀ fz b,I b→frzI I ρ s fz b:=fun fz b hb=>.inl hb
 intro m
 induction m with
 | zero=>intro x v y fz he;simp[pure1] at he
 | succ m ih =>
  intro x v y fz he hv
  cases x<;>simp only[pure1,Option.some.injEq,Prod.mk.injEq,reduceCtorEq] at he
  case int=>obtain⟨rfl,rfl⟩:=he;exact VR_none_up (hle _) none (plain_none none rfl hv)
  case bool=>obtain⟨rfl,rfl⟩:=he;exact VR_none_up (hle _) none (plain_none none rfl hv)
  case str=>obtain⟨rfl,rfl⟩:=he;exact VR_none_up (hle _) none (plain_none none rfl hv)
  case lst=>obtain⟨rfl,rfl⟩:=he;exact VR_none_up (hle _) none (plain_none none rfl hv)
  case clo=>obtain⟨rfl,rfl⟩:=he;exact VR_none_up (hle _) none (plain_none none rfl hv)
  case ipt=>obtain⟨rfl,rfl⟩:=he;exact VR_none_up (hle _) none (plain_none none rfl hv)
  case nilv=>obtain⟨rfl,rfl⟩:=he;exact VR_none_up (hle _) none (plain_none none rfl hv)
  case nils =>
   obtain⟨rfl,rfl⟩:=he
   have hv':v=.slice none 0 0:=by simpa [VR] using hv
   rw[VR]
   exact .inl ⟨rfl,rfl,none,0,hv'⟩
  case ptr b g o =>
   split at he
   ·rename_i k hk
    obtain⟨r,σ,hρ,hav⟩:=h.ptr hk hv
    obtain⟨hg,hl,hA,hok⟩:=h.blk hk
    rw[hρ] at hok
    obtain⟨_,_,_,hlen,arr,ty,hheap,hsz,hvv⟩:=hok
    have hrow:rowAt w r 0 (arr.toList.take k.cs.length):=by
     have:=rowAt_of_heap hheap k.cs.length 0 k.cs.length
     simpa [List.take_take] using this
    split at he
    ·rename_i hp
     cases he
     simp only[VR]
     exact⟨r,0,arr.toList.take k.cs.length,by simpa using hav,.inr ⟨b,k,σ,by simp,hl,hρ⟩,hrow,VRs.mono (hle _) (fun _ _ _=>rfl) _ _ (M:=none) trivial (plains_none none hp hvv)⟩
    ·split at he
     ·rename_i vs f hm
      cases he
      simp only[VR]
      exact⟨r,0,arr.toList.take k.cs.length,by simpa using hav,.inr ⟨b,k,σ,by simp,hl,hρ⟩,hrow,VRs.mono (fun x hx=>frzI_sub (fun c hc=>List.mem_cons_of_mem _ hc) x hx) (fun _ _ _=>rfl) _ _ (M:=none) trivial (mapO_sound (I2:=frzI I ρ s) (fun _ _ x hs=>frzI_sub hs x) (fun x v y fz=>ih x v y fz) _ vs f _ hm hvv)⟩
     ·cases he
   ·cases he
  case own b g o n =>
   split at he
   ·rename_i k hk
    split at he
    ·rename_i hle2
     obtain⟨hg,hl,hA,hok⟩:=h.blk hk
     have hv0:=hv
     simp only[VR,modeOf] at hv
     have hx2:=hv.2.2 _ hA
     simp only[] at hx2
     -- what the cells are,made pure
     have inner:∀(ys:List AV) (fz:List Nat) (us:List Value),((((k.cs.drop o).take (n*k.esz)).all AV.plain=true∧ys=(k.cs.drop o).take (n*k.esz)∧fz=[b])∨(∃ f,mapO (pure1 s fp m) ((k.cs.drop o).take (n*k.esz))=some (ys,f)∧fz=b::f)) →
       VRs I w (modeOf s ρ) ((k.cs.drop o).take (n*k.esz)) us→VRs (frzI I ρ s fz) w none ys us∧b∈fz:=by
      intro ys fz us hh hu
      rcases hh with⟨h1,rfl,rfl⟩|⟨f,h1,rfl⟩
      ·exact⟨VRs.mono (hle _) (fun _ _ _=>rfl) _ _ (M:=none) trivial (plains_none none h1 hu),by simp⟩
      ·exact⟨VRs.mono (fun x hx=>frzI_sub (fun c hc=>List.mem_cons_of_mem _ hc) x hx) (fun _ _ _=>rfl) _ _ (M:=none) trivial (mapO_sound (I2:=frzI I ρ s) (fun _ _ x hs=>frzI_sub hs x) (fun x v y fz=>ih x v y fz) _ ys f us h1 hu),by simp⟩
     have res:∃ ys,y=.lst n ys∧((((k.cs.drop o).take (n*k.esz)).all AV.plain=true∧ys=(k.cs.drop o).take (n*k.esz)∧fz=[b])∨(∃ f,mapO (pure1 s fp m) ((k.cs.drop o).take (n*k.esz))=some (ys,f)∧fz=b::f)):=by
      split at he
      ·rename_i hp
       cases he
       exact⟨_,rfl,.inl ⟨hp,rfl,rfl⟩⟩
      ·split at he
       ·rename_i vs f hm
        cases he
        exact⟨vs,rfl,.inr ⟨f,hm,rfl⟩⟩
       ·cases he
     obtain⟨ys,rfl,hres⟩:=res
     cases hρ:ρ b with
     | none =>
      rw[hρ] at hx2 hok
      obtain⟨h1,h2,_⟩:=hx2
      subst h2
      have:=(inner ys fz [] hres (by simp[VRs])).1
      have hn:ys=[]:=by cases ys with
       | nil=>rfl
       | cons _ _=>simp[VRs] at this
      rw[VR]
      exact .inl ⟨rfl,hn,none,0,h1⟩
     | some rs =>
      obtain⟨r,σ⟩:=rs
      rw[hρ] at hx2 hok
      obtain⟨ad,cap,h1,h2,h3,h4⟩:=hx2
      obtain⟨_,_,_,hlen,arr,ty,hheap,hsz,hvv⟩:=hok
      have hin:=inner ys fz _ hres ((hvv.drop o).take (n*k.esz))
      rw[VR]
      rcases h4 with⟨h4,_⟩|⟨rfl,_⟩
      ·subst h4
       have hi2:=(inner ys fz [] hres (by simp[VRs])).1
       have hn:ys=[]:=by cases ys with
        | nil=>rfl
        | cons _ _=>simp[VRs] at hi2
       exact .inl ⟨rfl,hn,ad,cap,h1⟩
      ·exact .inr ⟨r,o,cap,_,h1,h2,h3,.inr ⟨b,k,σ,hin.2,hl,hρ⟩,rowAt_of_heap hheap k.cs.length o (n*k.esz),hin.1⟩
    ·cases he
   ·cases he
theorem pureV_sound (h:R w0 I0 N I ρ s a w) {fp:List Nat} (x:AV) (v:Value) (y:AV) (fz:List Nat) (he:pureV s fp x=some (y,fz)) (hv:VR I w (modeOf s ρ) x v):VR (frzI I ρ s fz) w none y v:=by
 cases x with
 | agg xs =>
  simp only[pureV] at he
  obtain⟨cs,rfl,hvs⟩:=VR_agg hv
  split at he
  ·rename_i hp
   cases he
   simp only[VR]
   exact⟨cs,rfl,VRs.mono (fun b hb=>.inl hb) (fun _ _ _=>rfl) _ _ (M:=none) trivial (plains_none none hp hvs)⟩
  ·split at he
   ·rename_i vs f hm
    cases he
    simp only[VR]
    exact⟨cs,rfl,mapO_sound (I2:=frzI I ρ s) (fun _ _ x hs=>frzI_sub hs x) (fun x v y fz=>pure1_sound h 4 x v y fz) _ _ _ _ hm hvs⟩
   ·cases he
 | _=>exact pure1_sound h 4 _ v y fz (by simpa [pureV] using he) hv
theorem pureVs_sound (h:R w0 I0 N I ρ s a w) {fp:List Nat} {xs ys:List AV} {vs:List Value} {fz:List Nat} (he:pureVs s fp xs=some (ys,fz)) (hv:VRs I w (modeOf s ρ) xs vs):VRs (frzI I ρ s fz) w none ys vs :=
 mapO_sound (I2:=frzI I ρ s) (fun _ _ x hs=>frzI_sub hs x) (fun x v y fz=>pureV_sound h x v y fz) _ _ _ _ he hv
def Done (I:Nat→Prop) (w:World) (r:AV):Ending→World→Prop:=fun e w' =>
 ∃ v,e=.returned v∧Below w.heap.size w w'∧∃ I':Nat→Prop,(∀ b,I b→I' b)∧(∀ b,I' b→I b∨w.heap.size≤b)∧(∀ b,I' b→b<w'.heap.size)∧VR I' w' none r v
def Contract0 (P:Program) (f:FuncId) (sp:List AV→Option AV):Prop :=
 ∀(I:Nat→Prop) (w:World) (args:List AV) (vs:List Value) (r:AV),sp args=some r→VRs I w none args vs→(∀ b,I b→b<w.heap.size)→TabOk I w →
  (∀ w,(callFunc f vs.toArray).run P w=.ok (.enter f vs.toArray) w)∧Calls P f vs.toArray w (Done I w r)
def gst (h:Hp):St:=⟨[],h,fun _=>0⟩
def gbase (w:World) (h:Hp) (ρ:Nat→Place):Base:=⟨w,fun b=>∃ k,hlook h b=some k,ρ⟩
structure Gate (w0:Base) (I:Nat→Prop) (w:World) (h:Hp) (ρ:Nat→Place):Prop where
 ok:∀ b k,hlook h b=some k→k.frz=false∧BlkOk w0 I w (modeOf (gst h) ρ) (ρ b) k
 inj:∀ b b' k k' r σ σ',hlook h b=some k→hlook h b'=some k'→ρ b=some (r,σ)→ρ b'=some (r,σ')→b=b'
def GDone (I:Nat→Prop) (w:World) (h:Hp) (ρ:Nat→Place) (r:AV) (h':Hp):Ending→World→Prop:=fun e w' =>
 ∃ v,e=.returned v∧∃(I':Nat→Prop) (ρ':Nat→Place),(gbase w h ρ).upto w'∧(∀ b,I b→I' b)∧(∀ b,I' b→I b∨(gbase w h ρ).mine b)∧(∀ b,I' b→b<w'.heap.size) ∧
  (∀ b k k',hlook h b=some k→hlook h' b=some k'→ρ' b=ρ b)∧Gate (gbase w h ρ) I' w' h' ρ'∧VR I' w' (modeOf (gst h') ρ') r v
def GContract (P:Program) (f:FuncId) (sp:List AV→Option AV):Prop :=
 ∀(I:Nat→Prop) (w:World) (args:List AV) (vs:List Value) (r:AV) (h h':Hp) (ρ:Nat→Place),sp (args++[.tup (encs h)])=some (.tup (r::encs h'))→(h.all fun p => !p.2.frz)=true→(h'.all fun p => !p.2.frz)=true→VRs I w (modeOf (gst h) ρ) args vs→(∀ b k,hlook h b=some k→b<2∨(b=2∧hlook h' 2=none)) →
  Gate (gbase w h ρ) I w h ρ→(∀ b,I b→b<w.heap.size)→TabOk I w →
  (∀ w,(callFunc f vs.toArray).run P w=.ok (.enter f vs.toArray) w)∧Calls P f vs.toArray w (GDone I w h ρ r h')
def Cck (P:Program) (f:FuncId) (t:Nat):Prop :=
 ∀(w:World) (r:Nat),(∀ w,(callFunc f #[.pointer (some ⟨r,0,none⟩)]).run P w=.ok (.enter f #[.pointer (some ⟨r,0,none⟩)]) w) ∧
  (∀ c,w.heap[r]? = some (.cells #[.pointer none,c] t (0,0))→Calls P f #[.pointer (some ⟨r,0,none⟩)] w fun e w'=>e=.returned (.tuple #[])∧w'=w.setCell ⟨r,0,none⟩ (.pointer (some ⟨r,0,none⟩))) ∧
  (w.cell? ⟨r,0,none⟩=some (.pointer (some ⟨r,0,none⟩))→Calls P f #[.pointer (some ⟨r,0,none⟩)] w fun e w'=>e=.returned (.tuple #[])∧w'=w)
def Bst (P:Program) (f:FuncId) (t u:Nat):Prop :=
 ∀(w:World) (r q n cap:Nat) (p:Value) (cur:Array Value) (l:List UInt8),(∀ w,(callFunc f #[.pointer (some ⟨r,0,none⟩)]).run P w=.ok (.enter f #[.pointer (some ⟨r,0,none⟩)]) w) ∧
  (l≠[]→l.length=n→w.heap[r]? = some (.cells #[p,.slice (some ⟨q,0,none⟩) n cap] t (0,0))→w.heap[q]? = some (.cells cur u (0,0))→q≠r→n≤cap→cap≤maxLen→cur.size=cap →
   cur.toList.take n=l.map (fun c=>.int .u8 (c.toNat:Int))→Calls P f #[.pointer (some ⟨r,0,none⟩)] w fun e w'=>e=.returned (.string ⟨l.toArray⟩)∧w'.os=w.os∧w'.tape=w.tape∧w'.output=w.output∧w'.heap.size=w.heap.size∧∀ j,j≠q→w'.heap[j]? = w.heap[j]?)
def Contract (P:Program) (f:FuncId) (sp:List AV→Option AV):Prop :=
 if f<sBase then Contract0 P f sp else if f<tBase then (∀ t:Nat,sp []=some (.int .i64 t)→Cck P (f-sBase) t)
 else if f<gBase then (∀ t u:Nat,sp []=some (.tup [.int .i64 t,.int .i64 u])→Bst P (f-tBase) t u) else GContract P (f-gBase) sp
theorem bs1 {f:Nat} (hf:f<250000):sBase+f<tBase:=by unfold sBase tBase;omega
theorem bs2 {f:Nat}:¬ tBase+f<sBase:=by unfold sBase tBase;omega
theorem bs3 {f:Nat} (hf:f<250000):tBase+f<gBase:=by unfold gBase tBase;omega
theorem bs4 {f:Nat}:¬ gBase+f<sBase:=by unfold gBase sBase;omega
theorem bs5 {f:Nat}:¬ gBase+f<tBase:=by unfold gBase tBase;omega
theorem Contract.cck {P:Program} {f:Nat} {sp:List AV→Option AV} (h:Contract P (sBase+f) sp) (hf:f<250000) {t:Nat} (ht:sp []=some (.int .i64 t)):Cck P f t:=by
 unfold Contract at h
 rw[if_neg (Nat.not_lt.2 (Nat.le_add_right sBase f)),if_pos (bs1 hf),Nat.add_sub_cancel_left] at h
 exact h t ht
theorem Contract.of_cck {P:Program} {f:Nat} {sp:List AV→Option AV} (hf:f<250000) (h:∀ t:Nat,sp []=some (.int .i64 t)→Cck P f t):Contract P (sBase+f) sp:=by
 unfold Contract
 rw[if_neg (Nat.not_lt.2 (Nat.le_add_right sBase f)),if_pos (bs1 hf),Nat.add_sub_cancel_left]
 exact h
theorem Contract.bst {P:Program} {f:Nat} {sp:List AV→Option AV} (h:Contract P (tBase+f) sp) (hf:f<250000) {t u:Nat} (ht:sp []=some (.tup [.int .i64 t,.int .i64 u])):Bst P f t u:=by
 unfold Contract at h
 rw[if_neg bs2,if_neg (Nat.not_lt.2 (Nat.le_add_right tBase f)),if_pos (bs3 hf),Nat.add_sub_cancel_left] at h
 exact h t u ht
theorem Contract.of_bst {P:Program} {f:Nat} {sp:List AV→Option AV} (hf:f<250000) (h:∀ t u:Nat,sp []=some (.tup [.int .i64 t,.int .i64 u])→Bst P f t u):Contract P (tBase+f) sp:=by
 unfold Contract
 rw[if_neg bs2,if_neg (Nat.not_lt.2 (Nat.le_add_right tBase f)),if_pos (bs3 hf),Nat.add_sub_cancel_left]
 exact h
theorem Contract.plain {P:Program} {f:Nat} {sp:List AV→Option AV} (h:Contract P f sp) (hf:f<sBase):Contract0 P f sp:=by unfold Contract at h;rwa [if_pos hf] at h
theorem Contract.gate {P:Program} {f:Nat} {sp:List AV→Option AV} (h:Contract P (gBase+f) sp):GContract P f sp:=by
 unfold Contract at h
 rw[if_neg bs4,if_neg bs5,if_neg (Nat.not_lt.2 (Nat.le_add_right gBase f)),Nat.add_sub_cancel_left] at h
 exact h
theorem Contract.of_gate {P:Program} {f:Nat} {sp:List AV→Option AV} (h:GContract P f sp):Contract P (gBase+f) sp:=by
 unfold Contract
 rw[if_neg bs4,if_neg bs5,if_neg (Nat.not_lt.2 (Nat.le_add_right gBase f)),Nat.add_sub_cancel_left]
 exact h
theorem Contract.of_plain {P:Program} {f:Nat} {sp:List AV→Option AV} (hf:f<sBase) (h:Contract0 P f sp):Contract P f sp:=by unfold Contract;rwa [if_pos hf]
theorem Contract.less {P:Program} {f:FuncId} {sp sp':List AV→Option AV} (h:Contract P f sp') (hs:∀ args r,sp args=some r→sp' args=some r):Contract P f sp:=by
 unfold Contract at h ⊢
 split
 ·rename_i hf
  rw[if_pos hf] at h
  exact fun I w args vs r hsp=>h I w args vs r (hs _ _ hsp)
 ·rename_i hf
  rw[if_neg hf] at h
  split
  ·rename_i hf
   rw[if_pos hf] at h
   exact fun t ht=>h t (hs _ _ ht)
  ·rename_i hf
   rw[if_neg hf] at h
   split
   ·rename_i hf
    rw[if_pos hf] at h
    exact fun t u ht=>h t u (hs _ _ ht)
   ·rename_i hf
    rw[if_neg hf] at h
    exact fun I w args vs r h1 h2 ρ hsp=>h I w args vs r h1 h2 ρ (hs _ _ hsp)
theorem frzAll_nil:∀ h:Hp,frzAll [] h=h
 | []=>rfl
 | (k,b)::l=>by simp[frzAll,frzAll_nil l]
theorem appH_fz (v:Option AV) (fz:List Nat) (h:Hp):appH { v:=v,fz:=fz } h=frzAll fz h:=by
 unfold appH
 cases fz with
 | nil=>simp[frzAll_nil]
 | cons b l=>rfl
section ops
variable {o:Oper} {ao:AOper} {C:Cs}
theorem close_call {f:FuncId} {xs:List AV} {fz:List Nat} {r:AV} {us:List Value} {K:Act→World→Prop} {Q:Exit→Act→World→Prop} (hC:Contract0 P f (C f)) (h:R w0 I0 N I ρ s a w) (hd:o.dst=ao.d) (hN:∀ n,ao.d=some n→n<N)
  (hr:C f xs=some r) (hv:VRs (frzI I ρ s fz) w none xs us) (hK:∀ I' ρ' a' w',R w0 I0 N I' ρ' (app ao.d { v:=some r,fz:=fz } s) a' w'→K a' w')
  (hrun:(execOp a.eval o).run P w=(callFunc f us.toArray).run P w):o.wp P a w K Q:=by
 have hf:=h.freeze fz
 obtain⟨h1,h2⟩:=hC _ w xs us r hr hv hf.imm hf.tab
 unfold Oper.wp
 rw[hrun,h1 w]
 simp only[Oper.upon]
 refine Calls.mono h2 ?_
 rintro e w' ⟨v,rfl,hb,I',hi1,hi2,hi3,hvr⟩
 have hc:=hf.called hb hi1 hi2 hi3
 refine hK I' ρ _ w' ?_
 rw[hd]
 have:=hc.putO (d:=ao.d) (x:=some r) (v:=v) hN (fun y hy=>by cases hy;exact VR_none_up (fun _ h=>h) _ hvr)
 unfold app
 rw[appH_fz]
 exact this
theorem sim_call (hC:∀ f,Contract P f (C f)) (hd:o.dst=ao.d) (hN:∀ n,ao.d=some n→n<N) (f:FuncId) (hlt:f<sBase) (ys:Array Operand) (ts:Array TypeId) (xs:List AOpd) (ho:o.op=.call { callee:=.value (.func f),args:=ys,argTypes:=ts }) (hao:ao.op=.call f xs) (hm:mOpds ys.toList xs=true):Sim P N o C ao:=by
 intro w0 I0 I ρ s a w e K Q h he hK
 unfold eff at he
 rw[hao] at he
 simp only[] at he
 split at he
 ·rename_i vs fz hp
  split at he
  ·rename_i r hr
   cases he
   have hv:=pureVs_sound h hp (h.opds hm)
   refine close_call ((hC f).plain hlt) h hd hN hr hv hK ?_
   have:(ys.map a.eval)=(ys.toList.map a.eval).toArray:=by apply Array.ext';simp
   simp[execOp,ho,resolve,Act.eval,Deferred.ofValue,invoke,this]
  ·cases he
 ·cases he
theorem sim_dyn (hC:∀ f,Contract P f (C f)) (hd:o.dst=ao.d) (hN:∀ n,ao.d=some n→n<N) (x:Operand) (x':AOpd) (ys:Array Operand) (ts:Array TypeId) (xs:List AOpd) (ho:o.op=.call { callee:=.value x,args:=ys,argTypes:=ts }) (hao:ao.op=.dyn x' xs) (hx:mOpd x x'=true) (hm:mOpds ys.toList xs=true):Sim P N o C ao:=by
 intro w0 I0 I ρ s a w e K Q h he hK
 unfold eff at he
 rw[hao] at he
 simp only[] at he
 have hxv:=h.opd hx
 split at he
 ·rename_i f cp hcl
  rw[hcl] at hxv
  split at he
  rotate_left
  ·cases he
  rename_i hlt
  split at he
  ·rename_i vs fz hp
   split at he
   ·rename_i r hr
    cases he
    have hv:=pureVs_sound h hp (h.opds hm)
    simp only[VR] at hxv
    obtain⟨cs,hav,hcs⟩:=hxv
    have hv2:=hv.append (VRs.mono (fun b hb=>.inl hb) (fun _ _ _=>rfl) cp cs (M:=none) (M':=none) trivial hcs)
    refine close_call ((hC f).plain hlt) h hd hN hr hv2 hK ?_
    have:(ys.map a.eval)=(ys.toList.map a.eval).toArray:=by apply Array.ext';simp
    simp[execOp,ho,resolve,hav,Deferred.ofValue,invoke,this]
   ·cases he
  ·cases he
 ·cases he
theorem caps_sound (h:R w0 I0 N I ρ s a w) {fp:List Nat}:∀(xs:List AV) (ys:List AV) (fz:List Nat) (vs:List Value),caps s fp xs=some (ys,fz)→VRs I w (modeOf s ρ) xs vs→VRs (frzI I ρ s fz) w none ys vs
 | [],ys,fz,[],h,_=>by simp[caps] at h;obtain⟨rfl,rfl⟩:=h;simp[VRs]
 | [],_,_,_::_,_,h=>by simp[VRs] at h
 | _::_,_,_,[],_,h=>by simp[VRs] at h
 | x::xs,ys,fz,v::vs,he,hv=>by
  simp only[VRs] at hv
  simp only[caps] at he
  split at he
  ·rename_i b g p vs' fs hc
   split at he
   ·rename_i k hk
    split at he
    ·rename_i hp
     cases he
     have ih:=caps_sound h xs vs' fs vs hc hv.2
     obtain⟨r,σ,hρ,hav⟩:=h.ptr hk hv.1
     obtain⟨hg,hl,hA,hok⟩:=h.blk hk
     rw[hρ] at hok
     obtain⟨_,_,_,hlen,arr,ty,hheap,hsz,hvv⟩:=hok
     simp only[VRs]
     refine⟨?_,VRs.mono (fun x hx=>frzI_sub (fun c hc=>List.mem_cons_of_mem _ hc) x hx) (fun _ _ _=>rfl) _ _ (M:=none) trivial ih⟩
     simp only[VR]
     refine⟨r,0,arr.toList.take k.cs.length,by simpa using hav,.inr ⟨b,k,σ,by simp,hl,hρ⟩, ?_,VRs.mono (fun b hb=>.inl hb) (fun _ _ _=>rfl) _ _ (M:=none) trivial (plains_none none hp hvv)⟩
     have:=rowAt_of_heap hheap k.cs.length 0 k.cs.length
     simpa [List.take_take] using this
    ·cases he
   ·cases he
  ·rename_i p cs vs' fs hc
   cases he
   have ih:=caps_sound h xs vs' fz vs hc hv.2
   simp only[VRs]
   exact⟨VR_none_up (fun b hb=>.inl hb) none (plain_none none rfl hv.1),ih⟩
  ·cases he
theorem sim_clo (hd:o.dst=ao.d) (hN:∀ n,ao.d=some n→n<N) (f:FuncId) (ys:Array Operand) (xs:List AOpd) (ho:o.op=.makeFunc (.func f) #[] ys) (hao:ao.op=.clo f xs) (hm:mOpds ys.toList xs=true):Sim P N o C ao:=by
 intro w0 I0 I ρ s a w e K Q h he hK
 unfold eff at he
 rw[hao] at he
 simp only[] at he
 split at he
 ·rename_i vs fz hp
  cases he
  have hv:=caps_sound h _ _ _ _ hp (h.opds hm)
  have hf:=h.freeze fz
  have:(ys.map a.eval)=(ys.toList.map a.eval).toArray:=by apply Array.ext';simp
  refine wp_of_run (v:=.func (.func f) #[] (ys.toList.map a.eval).toArray) (w':=w) (by simp[execOp,ho,Instr.makeFunc,this]) (hK (frzI I ρ s fz) ρ _ w ?_)
  rw[hd]
  unfold app
  rw[appH_fz]
  refine hf.putO hN (fun y hy=>?_)
  cases hy
  simp only[VR]
  exact⟨_,rfl,hv⟩
 ·cases he
theorem sim_mks (hd:o.dst=ao.d) (hN:∀ n,ao.d=some n→n<N) (t:TypeId) (x y:Operand) (x':AOpd) (id sz:Nat) (z:List AV) (ho:o.op=.makeSlice t x y) (hao:ao.op=.mks id x' sz z) (hx:mOpd x x'=true) (hy:mOpd y x'=true) (ht:tSlice P t sz=true) (hz:tSliceZ P t z=true):Sim P N o C ao:=by
 intro w0 I0 I ρ s a w e' K Q h he hK
 unfold eff at he
 rw[hao] at he
 simp only[] at he
 have hxv:=h.opd hx
 have hyv:=h.opd hy
 obtain⟨e,i,zv,hu,hi,hzv,hsz,hpos,hzs,hby⟩:=tSlice_spec ht
 split at he
 ·rename_i kk m hm
  rw[hm] at hxv hyv
  have hav:=VR_int hxv
  have hav2:=VR_int hyv
  split at he
  ·rename_i hc
   obtain⟨hc1,hc2⟩:=hc
   cases he
   obtain⟨v,hrun,hvs⟩:=run_zero (P:=P) (tSliceZ_spec hz hu)
   have hvz:v=zv:=by
    have:=hrun w
    simp[zeroValue,typeInfo,hi,hzv] at this
    exact this.symm
   subst hvz
   have hrep:=VRs_rep (hvs I w (modeOf s ρ)) m.toNat
   refine close_row (o:=o) (ao:=ao) hd hN (vs:=(List.replicate m.toNat v.cells.toList).flatten.toArray) (ty:=e) (sz:=sz) h hK ?_ (by simpa using hrep) ?_ (by unfold maxLen;omega) (tSlice_lt ht)
   ·have hrz:=range_zero v.cells m.toNat
    have harr:(Array.range (m.toNat*v.cells.size)).map (fun i=>v.cells[i % v.cells.size]!)=(List.replicate m.toNat v.cells.toList).flatten.toArray:=by
     apply Array.ext'
     rw[hrz]
    rw[hzs] at harr
    have hw:IntKind.i64.wrap m=m:=IntWalk.i64_in m (by omega)
    have hb1:((i.bytes:Nat):Int)*m≤281474976710656:=by
     have:((i.bytes:Nat):Int)*m≤128*m:=Int.mul_le_mul_of_nonneg_right (by omega) hc1
     omega
    have hb2:¬ (281474976710656<((i.bytes:Nat):Int)*m):=by omega
    have hm0:¬ m<0:=by omega
    simp only[execOp,ho,Instr.makeSlice,Sem.run_bind,run_underlying hu,Result.andThen_ok,hav,hav2,asInt,asIntOf,Sem.run_pure,typeInfo,run_program,hi,hw]
    have hbig:decide (((i.bytes:Nat):Int)*m>2^48)=false:=decide_eq_false (by show ¬ ((281474976710656:Int)<_);exact hb2)
    have hmm:¬ m>m:=by omega
    simp only[hbig,hm0,hmm,decide_false,Bool.or_false,Bool.false_eq_true,if_false,Sem.run_bind,run_askRoom,Result.andThen_ok,run_sizeOf' hi,hsz]
    by_cases h0:m.toNat=0
    ·have:m.toNat*sz=0:=by rw[h0,Nat.zero_mul]
     rw[if_pos this]
     have hr0:Array.range (0*sz)=#[]:=by rw[Nat.zero_mul];rfl
     simp only[hr0,Array.map_empty,h0,List.replicate_zero,List.flatten_nil,Sem.run_bind,Result.andThen_ok,Sem.run_pure,newRow]
     rfl
    ·have h0':¬ (m.toNat*sz=0):=by
      intro hh
      rcases Nat.mul_eq_zero.1 hh with h|h<;>omega
     rw[if_neg h0']
     simp only[Sem.run_bind,hrun,Result.andThen_ok,Sem.run_pure,hzs,newRow]
     rw[harr]
     rfl
   ·simp[List.length_flatten,hzs]
  ·cases he
 ·cases he
theorem bounds_run {n cap l hh:Nat} {lo hi:Option AOpd} {lo' hi':Option Operand} (h:R w0 I0 N I ρ s a w) (hb:bounds s n lo hi=some (l,hh)) (hc:n≤cap)
  (hlo:mOpdO lo' lo=true) (hhi:mOpdO hi' hi=true) :
  l≤hh∧hh≤n∧(∀ b,(Instr.sliceBounds b n cap (lo'.map a.eval) (hi'.map a.eval) none).run P w=.ok (l,hh,cap) w):=by
 unfold bounds at hb
 have sb:∀ {x:Operand} {y:AOpd} {kk:IntKind} {q:Int} {m:Nat} {code:BoundsCode},mOpd x y=true→opv s y=.int kk q→0≤q→q≤m→(Instr.sliceBound (a.eval x) m code).run P w=.ok q.toNat w:=by
  intro x y kk q m code hm hq h0 h1
  have hv:=h.opd hm
  rw[hq] at hv
  rw[VR_int hv]
  simp[Instr.sliceBound,asIntOf,h0,h1]
 cases hi with
 | none =>
  cases hi' with
  | some x=>simp[mOpdO] at hhi
  | none =>
   cases lo with
   | none =>
    cases lo' with
    | some x=>simp[mOpdO] at hlo
    | none =>
     simp at hb
     obtain⟨rfl,rfl⟩:=hb
     exact⟨Nat.zero_le _,Nat.le_refl _,fun b=>by simp[Instr.sliceBounds]⟩
   | some y =>
    cases lo' with
    | none=>simp[mOpdO] at hlo
    | some x =>
     simp only[mOpdO] at hb hlo
     split at hb
     ·rename_i kk q hq
      split at hb
      ·rename_i hq2
       simp at hb
       obtain⟨rfl,rfl⟩:=hb
       refine⟨by omega,Nat.le_refl _,fun b=>?_⟩
       simp only[Instr.sliceBounds,Option.map_none,Option.map_some,Sem.run_bind,Sem.run_pure,Result.andThen_ok]
       rw[sb hlo hq hq2.1 hq2.2]
       simp
      ·cases hb
     ·cases hb
 | some z =>
  cases hi' with
  | none=>simp[mOpdO] at hhi
  | some x =>
   simp only[mOpdO] at hb hhi
   split at hb
   ·rename_i kk q hq
    split at hb
    ·rename_i hq2
     have e1:∀ code,(Instr.sliceBound (a.eval x) cap code).run P w=.ok q.toNat w:=fun code=>sb hhi hq hq2.1 (by omega)
     cases lo with
     | none =>
      cases lo' with
      | some x=>simp[mOpdO] at hlo
      | none =>
       simp at hb
       obtain⟨rfl,rfl⟩:=hb
       refine⟨Nat.zero_le _,by omega,fun b=>?_⟩
       simp only[Instr.sliceBounds,Option.map_some,Option.map_none,Sem.run_bind,Sem.run_pure,Result.andThen_ok,e1]
     | some y =>
      cases lo' with
      | none=>simp[mOpdO] at hlo
      | some x0 =>
       simp only[mOpdO] at hb hlo
       split at hb
       ·rename_i kk2 q2 hq3
        split at hb
        ·rename_i hq4
         simp at hb
         obtain⟨rfl,rfl⟩:=hb
         refine⟨by omega,by omega,fun b=>?_⟩
         simp only[Instr.sliceBounds,Option.map_none,Option.map_some,Sem.run_bind,Sem.run_pure,Result.andThen_ok,e1]
         rw[sb hlo hq3 hq4.1 (by omega)]
         simp
        ·cases hb
       ·cases hb
    ·cases hb
   ·cases hb
theorem sim_sl (hd:o.dst=ao.d) (hN:∀ n,ao.d=some n→n<N) (t:TypeId) (x:Operand) (x':AOpd) (lo hi:Option AOpd) (lo' hi':Option Operand) (sz:Nat) (ho:o.op=.slice t x lo' hi' none) (hao:ao.op=.sl x' lo hi sz) (hx:mOpd x x'=true)
  (hlo:mOpdO lo' lo=true) (hhi:mOpdO hi' hi=true) (ht:tSlice P t sz=true):Sim P N o C ao:=by
 intro w0 I0 I ρ s a w e K Q h he hK
 unfold eff at he
 rw[hao] at he
 simp only[] at he
 have hxv:=h.opd hx
 obtain⟨e0,i,zv,hu,hi0,hzv,hsz,hpos,_,_⟩:=tSlice_spec ht
 -- the model's own step
 have run:∀(ad:Option Addr) (n cap l hh:Nat),a.eval x=.slice ad n cap→n≤cap→bounds s n lo hi=some (l,hh) →
   (execOp a.eval o).run P w=.ok (.value (.slice (if cap=l then ad else ad.map (·.add (l*sz))) (hh-l) (cap-l))) w:=by
  intro ad n cap l hh hav hc hb
  obtain⟨_,_,hr⟩:=bounds_run (P:=P) (lo':=lo') (hi':=hi') h hb hc hlo hhi
  simp only[execOp,ho,Instr.sliceAt,Sem.run_bind,run_underlying hu,Result.andThen_ok,Instr.slice,hav,Option.map_none,hr,run_sizeOf' hi0,hsz,Sem.run_pure]
 split at he
 ·rename_i b g p n hp
  rw[hp] at hxv
  split at he
  ·rename_i k l hh hk hb
   have:=val_ok he;subst this
   obtain⟨hg,hl,hA,hok⟩:=h.blk hk
   simp only[VR,modeOf] at hxv
   have hx2:=hxv.2.2 _ hA
   simp only[] at hx2
   cases hρ:ρ b with
   | none =>
    rw[hρ] at hx2
    obtain⟨h1,rfl,rfl⟩:=hx2
    obtain⟨hb1,hb2,_⟩:=bounds_run (P:=P) (cap:=0) h hb (Nat.le_refl _) hlo hhi
    refine close_val h hd hN hK (run none 0 0 l hh h1 (Nat.le_refl _) hb) ?_
    have hl0:l=0:=by omega
    have hh0:hh=0:=by omega
    subst hl0;subst hh0
    simp only[VR,modeOf]
    refine⟨⟨_,_,_,rfl⟩,by omega,fun L hL=>?_⟩
    rw[hA] at hL
    cases hL
    simp[hρ]
   | some rs =>
    obtain⟨r,σ⟩:=rs
    rw[hρ] at hx2
    obtain⟨ad,cap,h1,h2,h3,h4⟩:=hx2
    obtain⟨hb1,hb2,_⟩:=bounds_run (P:=P) (cap:=cap) h hb h2 hlo hhi
    refine close_val h hd hN hK (run ad n cap l hh h1 h2 hb) ?_
    simp only[VR,modeOf]
    refine⟨⟨_,_,_,rfl⟩,by omega,fun L hL=>?_⟩
    rw[hA] at hL
    cases hL
    simp only[hρ]
    refine⟨_,cap-l,rfl,by omega,by omega, ?_⟩
    rcases h4 with⟨h4,h5⟩|⟨rfl,h5⟩
    ·left
     exact⟨by omega,by omega⟩
    ·by_cases hcl:cap=l
     ·by_cases hl0:l=0
      ·subst hl0
       right
       rw[if_pos hcl]
       exact⟨by simp,fun e=>by have:=h5 (by omega);rw[hcl] at this;rw[hcl];simpa using this⟩
      ·left
       refine⟨by omega, ?_⟩
       have:0<l*sz:=Nat.mul_pos (by omega) hpos
       omega
     ·right
      rw[if_neg hcl]
      refine⟨by simp[Addr_add],fun e=>?_⟩
      have hl0:l=0:=by
       rcases Nat.eq_zero_or_pos l with h|h
       ·exact h
       ·have:0<l*sz:=Nat.mul_pos h hpos
        omega
      subst hl0
      exact h5 (by omega)
  ·cases he
 ·rename_i n xs hp
  rw[hp] at hxv
  split at he
  ·rename_i l hh hb
   have:=val_ok he;subst this
   simp only[VR] at hxv
   rcases hxv with⟨rfl,rfl,ad,c,hav⟩|⟨b,off,cap,cs,hav,h2,h3,hI,hrow,hvs⟩
   ·obtain⟨hb1,hb2,_⟩:=bounds_run (P:=P) (cap:=c) h hb (Nat.zero_le _) hlo hhi
    refine close_val h hd hN hK (run ad 0 c l hh hav (Nat.zero_le _) hb) ?_
    rw[VR]
    exact .inl ⟨by omega,by simp,_,_,by rw[show hh-l=0 by omega]⟩
   ·obtain⟨hb1,hb2,_⟩:=bounds_run (P:=P) (cap:=cap) h hb h2 hlo hhi
    refine close_val h hd hN hK (run _ n cap l hh hav h2 hb) ?_
    rw[VR]
    by_cases hcl:cap=l
    ·exact .inl ⟨by omega,by rw[show hh-l=0 by omega];simp,_,_,by rw[show hh-l=0 by omega]⟩
    ·refine .inr ⟨b,off+l*sz,cap-l,(cs.drop (l*sz)).take ((hh-l)*sz), ?_,by omega,by omega,hI,rowAt_drop hrow _ _,(hvs.drop _).take _⟩
     rw[if_neg hcl]
     simp[Addr_add]
  ·cases he
 ·rename_i hp
  rw[hp] at hxv
  split at he
  ·rename_i q hb
   obtain⟨l,hh⟩:=q
   have:=val_ok he;subst this
   simp only[VR] at hxv
   obtain⟨hb1,hb2,_⟩:=bounds_run (P:=P) (cap:=0) h hb (Nat.le_refl _) hlo hhi
   refine close_val h hd hN hK (run none 0 0 l hh hxv (Nat.le_refl _) hb) ?_
   have hl0:l=0:=by omega
   have hh0:hh=0:=by omega
   subst hl0;subst hh0
   simp[VR]
  ·cases he
 ·cases he
end ops
end
end Go.Am
namespace Go.Am
set_option linter.unusedSimpArgs false
set_option linter.unusedVariables false
open Go.RowKit
section
variable {P:Program} {w0:Base} {I0:Nat→Prop} {N:Nat} {I:Nat→Prop} {ρ:Nat→Place} {s:St} {a:Act} {w:World} {M:Option Mode}
theorem shows_sound (h:R w0 I0 N I ρ s a w) {fp:List Nat} {sz m:Nat} {x:AV} {ys:List AV} {v:Value} (he:shows s fp sz x=some (m,ys)) (hv:VR I w (modeOf s ρ) x v) :
  ys.length=m*sz∧∃ ad cap us,v=.slice ad m cap∧VRs I w (modeOf s ρ) ys us∧(m≠0→∃ b,ad=some b∧∀ j u,us[j]? = some u→w.cell? (b.add j)=some u):=by
 cases x<;>simp only[shows,Option.some.injEq,Prod.mk.injEq,reduceCtorEq] at he
 case nils =>
  obtain⟨rfl,rfl⟩:=he
  have hv':v=.slice none 0 0:=by simpa [VR] using hv
  exact⟨by simp,none,0,[],hv',by simp[VRs],fun h=>absurd rfl h⟩
 case lst n xs =>
  split at he
  ·rename_i hl
   cases he
   refine⟨hl, ?_⟩
   have hv':=hv
   rw[VR] at hv'
   rcases hv' with⟨rfl,rfl,ad,c,hav⟩|⟨b,off,cap,cs,hav,h2,h3,hI,hrow,hvs⟩
   ·exact⟨ad,c,[],hav,by simp[VRs],fun h=>absurd rfl h⟩
   ·exact⟨_,cap,cs,hav,VRs.mono (fun _ h=>h) (fun _ _ _=>rfl) _ _ (M:=none) trivial hvs,fun _=>⟨_,rfl,fun j u hu=>by rw[Addr_add];exact hrow j u hu⟩⟩
  ·cases he
 case own b g o n =>
  split at he
  ·rename_i k hk
   split at he
   ·rename_i hl
    cases he
    refine⟨by simp;omega, ?_⟩
    obtain⟨hg,hh,hA,hok⟩:=h.blk hk
    simp only[VR,modeOf] at hv
    have hx2:=hv.2.2 _ hA
    simp only[] at hx2
    cases hρ:ρ b with
    | none =>
     rw[hρ] at hx2 hok
     obtain⟨h1,rfl,rfl⟩:=hx2
     exact⟨none,0,[],h1,by simp[VRs],fun h=>absurd rfl h⟩
    | some rs =>
     obtain⟨r,σ⟩:=rs
     rw[hρ] at hx2 hok
     obtain⟨ad,cap,h1,h2,h3,h4⟩:=hx2
     obtain⟨_,_,_,hlen,arr,ty,hheap,hsz,hvv⟩:=hok
     refine⟨ad,cap,_,h1,(hvv.drop o).take (m*sz),fun hm=>?_⟩
     rcases h4 with⟨h4,_⟩|⟨rfl,_⟩
     ·exact absurd h4 hm
     ·refine⟨_,rfl,fun j u hu=>?_⟩
      rw[Addr_add]
      exact rowAt_of_heap hheap k.cs.length o (m*sz) j u hu
   ·cases he
  ·cases he
theorem hdel_hput (b:Nat) (k:Blk):∀ h:Hp,hdel (hput h b k) b=hdel h b
 | []=>by simp[hput,hdel]
 | (j,u)::l=>by
  simp only[hput]
  split
  ·rename_i hj
   subst hj
   simp[hdel]
  ·rename_i hj
   simp only[hdel,if_neg hj,hdel_hput b k l]
theorem BlkOk.ren {M M':Option Mode} {p:Place} {k:Blk} (hM:Mode.le M M') (hf:k.frz=false) (esz:Nat) (he:k.esz≠mapTag) (he2:esz≠mapTag) (he3:esz<4096∨esz=k.esz) (hok:BlkOk w0 I w M p k):BlkOk w0 I w M' p ⟨k.cs,false,esz⟩:=by
 revert hok
 unfold BlkOk
 rw[if_neg he,if_neg (show (⟨k.cs,false,esz⟩:Blk).esz≠mapTag from he2)]
 unfold BlkC
 cases p with
 | none=>exact id
 | some p =>
  obtain⟨r,σ⟩:=p
  rintro⟨h1,⟨h2,hT⟩,h3,h4,arr,ty,h5,h6,h7⟩
  exact⟨h1,⟨fun e=>by simp at e,he3.elim .inl fun e=>e▸hT⟩,fun _=>h3 hf,h4,arr,ty,h5,h6,VRs.mono (fun _ h=>h) (fun _ _ _=>rfl) _ _ hM h7⟩
theorem R.rename (h:R w0 I0 N I ρ s a w) {b:Nat} {k:Blk} (hk:hlook s.h b=some k) (id:Nat) (cs':List AV) (esz:Nat) (hcs:cs'=k.cs) (hf:k.frz=false) (he:k.esz≠mapTag) (he2:esz≠mapTag) (he3:esz<4096∨esz=k.esz) :
  R w0 I0 N I (fun j=>if j=id then ρ b else ρ j) ⟨s.t,hput (hdel s.h b) id ⟨cs',false,esz⟩,bump id s.g⟩ a w:=by
 subst hcs
 have hM:Mode.le (modeOf s ρ) (modeOf ⟨s.t,hput (hdel s.h b) id ⟨k.cs,false,esz⟩,bump id s.g⟩ (fun j=>if j=id then ρ b else ρ j)):=by
  refine⟨fun j=>?_,fun j g L hg hA=>?_⟩
  ·show s.g j≤bump id s.g j
   unfold bump;split<;>omega
  ·simp only[aliveA,bump,hlook_hput,hlook_hdel] at hA ⊢
   by_cases hbd:j=id
   ·subst hbd
    rw[if_pos rfl] at hA
    rw[if_neg (by simp only[] at hg;omega)] at hA
    cases hA
   ·simp only[if_neg hbd,if_neg (Ne.symm hbd)] at hA
    by_cases hjb:b=j
    ·subst hjb
     simp at hA
    ·rw[if_neg hjb] at hA
     exact hA
 have pick:∀ j kj,hlook (hput (hdel s.h b) id ⟨k.cs,false,esz⟩) j=some kj→(j=id∧kj=⟨k.cs,false,esz⟩)∨(j≠id∧j≠b∧hlook s.h j=some kj):=by
  intro j kj hj
  rw[hlook_hput,hlook_hdel] at hj
  by_cases e:id=j
  ·rw[if_pos e] at hj;cases hj;exact .inl ⟨e.symm,rfl⟩
  ·rw[if_neg e] at hj
   by_cases e2:b=j
   ·rw[if_pos e2] at hj;cases hj
   ·rw[if_neg e2] at hj;exact .inr ⟨Ne.symm e,Ne.symm e2,hj⟩
 refine { defers:=h.defers,tab:=VR.mono (fun _ h=>h) (fun _ _ _=>rfl) _ _ (M:=none) (M':=none) trivial h.tab,size:=h.size,below:=h.below,imm:=h.imm,old:=h.old,new:=h.new,kept:=kept_bump h id _,tm:=fun t=>VR.mono (fun _ h=>h) (fun _ _ _=>rfl) _ _ hM (h.tm t),hp:=fun j kj hj=>?_,inj:=?_ }
 ·rcases pick j kj hj with⟨rfl,rfl⟩|⟨h1,h2,h3⟩
  ·simp only[if_true]
   exact BlkOk.ren hM hf esz he he2 he3 (h.hp b k hk)
  ·rw[if_neg h1]
   exact BlkOk.mono (fun _ h=>h) (fun _ _ _ _ h=>h) (fun _ _ _=>rfl) (fun _ _ _=>rfl) hM (h.hp j kj h3)
 ·intro j j' kj kj' r σ σ' hj hj' hp hp'
  rcases pick j kj hj with⟨rfl,_⟩|⟨h1,h2,h3⟩<;>rcases pick j' kj' hj' with⟨rfl,_⟩|⟨h1',h2',h3'⟩
  ·rfl
  ·simp only[if_true] at hp
   rw[if_neg h1'] at hp'
   exact absurd (h.inj b j' k kj' r σ σ' hk h3' hp hp').symm h2'
  ·simp only[if_true] at hp'
   rw[if_neg h1] at hp
   exact absurd (h.inj j b kj k r σ σ' h3 hk hp hp') h2
  ·rw[if_neg h1] at hp
   rw[if_neg h1'] at hp'
   exact h.inj j j' kj kj' r σ σ' h3 h3' hp hp'
theorem hlook_drop1 (h:Hp) (b:Nat) (j:Nat):hlook (hdel h b) j=none∨hlook (hdel h b) j=hlook h j:=by
 rw[hlook_hdel];split<;>simp
section ops
variable {o:Oper} {ao:AOper} {C:Cs}
theorem run_append_none {t e:TypeId} {i:TypeInfo} (hu:P.underlying t=some (.slice e)) (hi:P.info? e=some i) (ty:TypeId) (ad:Option Addr) (n cap:Nat) (x:Option Addr) (c:Nat) (hc:n≤cap) (w:World) :
  (Builtin.append_ #[t,t] ty #[.slice ad n cap,.slice x 0 c]).run P w=.ok (.slice ad n cap) w:=by
 have hf:(Builtin.firstCells i.size 0 (.slice x 0 c)).run P w=.ok #[] w:=by
  cases x<;>simp[Builtin.firstCells,loadCells,loadCellsFrom]
 cases ad with
 | none=>simp[Builtin.append_,run_underlying hu,run_sizeOf' hi,Builtin.lenOf,hc,hf]
 | some ad=>simp[Builtin.append_,run_underlying hu,run_sizeOf' hi,Builtin.lenOf,hc,hf,storeCells]
theorem run_append_room' {t e:TypeId} {i:TypeInfo} (ht:P.underlying t=some (.slice e)) (hi:P.info? e=some i) (ty:TypeId)
  (g sLen sCap:Nat) (cur:Array Value) (te:Nat) (w:World) (hg:w.heap[g]? = some (.cells cur te (0,0)))
  (ad:Addr) (m c:Nat) (news:List Value) (hl:news.length=m*i.size) (hnews:∀ j u,news[j]? = some u→w.cell? (ad.add j)=some u) (h1:∀ u∈news,u.oneCell'=true)
  (hroom:sLen+m≤sCap) (hfit:sLen*i.size+news.length≤cur.size) :
  (Builtin.append_ #[t,t] ty #[.slice (some ⟨g,0,none⟩) sLen sCap,.slice (some ad) m c]).run P w =
   .ok (.slice (some ⟨g,0,none⟩) (sLen+m) sCap) (w.setRow g (cur.toList.take (sLen*i.size)++news++cur.toList.drop (sLen*i.size+news.length)).toArray):=by
 have hf:=run_firstCells_some (P:=P) w i.size m ad m c news hl hnews
 have hst:=run_storeCells_at P g (sLen*i.size) te news 0 cur w hg (by simpa using hfit) h1
 simp only[Nat.add_zero] at hst
 simp[Builtin.append_,run_underlying ht,sizeOf,typeInfo,hi,Builtin.lenOf,hroom,hf,Addr_add,hst]
theorem zeros_size (z:Array Value) (n:Nat):(Builtin.zeroCells z n).size=n*z.size:=by simp[Builtin.zeroCells]
theorem sim_app (hd : o.dst = ao.d) (hN : ∀ n, ao.d = some n → n < N) (t : TypeId) (x y : Operand) (x' y' : AOpd) (id : Nat) (ws : List Nat) (sz : Nat) (ho : o.op = .call { callee := .builtin .append, args := #[x, y], argTypes := #[t, t] }) (hao : ao.op = .app id ws x' y' sz) (hx : mOpd x x' = true) (hy : mOpd y y' = true) (ht : tSlice P t sz = true) : Sim P N o C ao := by
  intro w0 I0 I ρ s a w e' K Q h he hK
  unfold eff at he
  rw [hao] at he
  simp only [] at he
  have hxv := h.opd hx
  have hyv := h.opd hy
  obtain ⟨e, i, z, hu, hi, hzv, hsz, hpos, hzs, hby⟩ := tSlice_spec ht
  have exec : ∀ u v r w', a.eval x = u → a.eval y = v → (Builtin.append_ #[t, t] o.type #[u, v]).run P w = .ok r w' → (execOp a.eval o).run P w = .ok (.value r) w' := by
    intro u v r w' hu hv hr
    simp [execOp, ho, resolve, invoke, builtin, hu, hv, hr]
  split at he
  · rename_i m ys hsh
    obtain ⟨hyl, ad, capy, us, hyav, hyvs, hyc⟩ := shows_sound h hsh hyv
    have hul : us.length = m * sz := by rw [← hyvs.length]; exact hyl
    split at he
    · -- onto nil
      rename_i hp
      rw [hp] at hxv
      have hxav : a.eval x = .slice none 0 0 := by simpa [VR] using hxv
      split at he
      · rename_i hm0
        have := val_ok he; subst this
        subst hm0
        refine close_val h hd hN hK (exec _ _ _ w hxav hyav (run_append_none hu hi _ none 0 0 ad capy (Nat.le_refl _) w)) (by simp [VR])
      · rename_i hm0
        split at he
        · rename_i hc
          cases he
          obtain ⟨b0, rfl, hcells⟩ := hyc hm0
          have hr := run_append_nil (P := P) w t o.type e i z hu hi hzv b0 m capy us (by rw [hul, hsz]) hcells (by omega) (by omega) (by have := Nat.mul_le_mul hc.1 hby; omega)
          have hge := grownCap_ge w m 0 e
          have hcm := grownCap_le_maxLen w m 0 e (by unfold maxLen; omega)
          have hal := h.alloc id w.heap.size sz ys (us.toArray ++ Builtin.zeroCells z.cells (grownCap w m 0 e - m)) e (he := tSlice_ne ht) (w' := w.drew.alloc (.cells (us.toArray ++ Builtin.zeroCells z.cells (grownCap w m 0 e - m)) e))
            (((Below.refl _ w).drew).alloc (Nat.le_refl _) _) (Nat.le_refl _) (heap_alloc_new w.drew _) (by simp [hyl, hul]) (by
              rw [Array.toList_append, List.take_append_of_le_length (by simp [hyl, hul])]
              rw [List.take_of_length_le (by simp [hyl, hul])]
              exact hyvs) (.inl (tSlice_lt ht))
          refine wp_of_run (exec _ _ _ _ hxav hyav hr) (hK I (fun b => if b = id then some (w.heap.size, (us.toArray ++ Builtin.zeroCells z.cells (grownCap w m 0 e - m)).size) else ρ b) _ _ ?_)
          rw [hd]
          refine hal.putO hN (fun y hy => ?_)
          cases hy
          refine VR_newown (bump_self _ _) (by rw [hlook_hput, if_pos rfl]) (if_pos rfl) hge hcm ?_
          rw [show (Blk.esz ⟨_, false, sz⟩) % 4096 = sz from tSlice_mod ht]
          simp only [Array.size_append, zeros_size, hzs, List.size_toArray, hul]
          rw [← Nat.add_mul]
          congr 1
          omega
        · cases he
    · -- onto a row of the call's own
      rename_i b g p n hp
      rw [hp] at hxv
      by_cases hws : ¬ (ws.contains b = true)
      · rw [if_neg hws] at he; cases he
      rw [if_pos (Classical.not_not.1 hws)] at he
      split at he
      · rename_i k hk
        split at he
        · rename_i hc
          obtain ⟨rfl, hc2, hc3, hc4, hc5, hc6⟩ := hc
          cases he
          obtain ⟨hg, hl, hA, hok⟩ := h.blk hk
          simp only [VR, modeOf] at hxv
          have hx2 := hxv.2.2 _ hA
          simp only [] at hx2
          have hone := VRs_oneCell hyvs hc6
          have hdr := h.drop (t' := s.t) (h' := hdel s.h b) (fun _ => .inr rfl) (fun j => hlook_drop1 s.h b j)
          have hMd : Mode.le (modeOf s ρ) (modeOf ⟨s.t, hdel s.h b, s.g⟩ ρ) := by
            refine ⟨fun _ => Nat.le_refl _, fun j g L hg hA => ?_⟩
            simp only [aliveA] at hA ⊢
            rcases hlook_drop1 s.h b j with e | e
            · rw [e] at hA; simp at hA
            · rw [e] at hA; exact hA
          cases hρ : ρ b with
          | none =>
            rw [hρ] at hx2 hok
            obtain ⟨hxav, rfl, _⟩ := hx2
            have hkcs : k.cs = [] := hok
            by_cases hm0 : m = 0
            · subst hm0
              have hys : ys = [] := List.eq_nil_of_length_eq_zero (by simpa using hyl)
              have hn0 := hdr.nil0 id sz
              refine wp_of_run (exec _ _ _ w hxav hyav (run_append_none hu hi _ none 0 0 ad capy (Nat.le_refl _) w)) (hK I (fun j => if j = id then none else ρ j) _ w ?_)
              rw [hd]
              have e1 : k.cs.take (0 * sz) ++ ys = [] := by rw [hys, hkcs]; simp
              unfold app appH appG
              simp only [e1]
              refine hn0.putO hN (fun y hy => ?_)
              cases hy
              simp only [VR, modeOf]
              refine ⟨⟨_, _, _, rfl⟩, by simp [bump], fun L hL => ?_⟩
              simp [aliveA, bump, hlook_hput] at hL
              subst hL
              simp
            · obtain ⟨b0, rfl, hcells⟩ := hyc hm0
              have hr := run_append_nil (P := P) w t o.type e i z hu hi hzv b0 m capy us (by rw [hul, hsz]) hcells (by omega) (by omega) (by have := Nat.mul_le_mul (show m ≤ 1099511627776 by omega) hby; omega)
              have hge := grownCap_ge w m 0 e
              have hcm := grownCap_le_maxLen w m 0 e (by unfold maxLen; omega)
              have e1 : k.cs.take (0 * sz) ++ ys = ys := by rw [hkcs]; simp
              have hal := hdr.alloc id w.heap.size sz ys (us.toArray ++ Builtin.zeroCells z.cells (grownCap w m 0 e - m)) e (he := tSlice_ne ht) (w' := w.drew.alloc (.cells (us.toArray ++ Builtin.zeroCells z.cells (grownCap w m 0 e - m)) e))
                (((Below.refl _ w).drew).alloc (Nat.le_refl _) _) (Nat.le_refl _) (heap_alloc_new w.drew _) (by simp [hyl, hul]) (by
                  rw [Array.toList_append, List.take_append_of_le_length (by simp [hyl, hul])]
                  rw [List.take_of_length_le (by simp [hyl, hul])]
                  exact VRs.mono (fun _ h => h) (fun _ _ _ => rfl) _ _ hMd hyvs) (.inl (tSlice_lt ht))
              refine wp_of_run (exec _ _ _ _ hxav hyav hr) (hK I (fun b => if b = id then some (w.heap.size, (us.toArray ++ Builtin.zeroCells z.cells (grownCap w m 0 e - m)).size) else ρ b) _ _ ?_)
              rw [hd]
              unfold app appH appG
              simp only [e1]
              refine hal.putO hN (fun y hy => ?_)
              cases hy
              rw [Nat.zero_add]
              refine VR_newown (bump_self _ _) (by rw [hlook_hput, if_pos rfl]) (if_pos rfl) hge hcm ?_
              rw [show (Blk.esz ⟨_, false, sz⟩) % 4096 = sz from tSlice_mod ht]
              simp only [Array.size_append, zeros_size, hzs, List.size_toArray, hul]
              rw [← Nat.add_mul]
              congr 1
              omega
          | some rs =>
            obtain ⟨r, σ⟩ := rs
            rw [hρ] at hx2 hok
            obtain ⟨adx, cap, hxav, hncap, hcapm, h4⟩ := hx2
            obtain ⟨hr0, _, hnf, hlen, arr, ty, hheap, hasz, hvv⟩ := hok
            have hσ : adx = some ⟨r, 0, none⟩ ∧ cap * (k.esz % 4096) = σ := by
              rcases h4 with ⟨_, h4⟩ | ⟨h4, h5⟩
              · exact absurd rfl h4
              · exact ⟨h4, h5 trivial⟩
            obtain ⟨rfl, hσ⟩ := hσ
            rw [hc4, tSlice_mod ht] at hσ
            have hcl := hvv.length
            have hnew : VRs I w (modeOf s ρ) (k.cs.take (n * sz) ++ ys) ((arr.toList.take (n * sz)) ++ us) := by
              have h1 := (hvv.take (n * sz)).append hyvs
              rw [List.take_take, Nat.min_eq_left hc2] at h1
              exact h1
            have hnl : (k.cs.take (n * sz) ++ ys).length = (n + m) * sz := by
              simp [hyl, Nat.add_mul]; omega
            by_cases hroom : n + m ≤ cap
            · -- there is room
              have hsize : n * sz + m * sz ≤ σ := by rw [← hσ, ← Nat.add_mul]; exact Nat.mul_le_mul_right _ hroom
              -- the new contents, in place
              have key : ∃ w' : World, (Builtin.append_ #[t, t] o.type #[.slice (some ⟨r, 0, none⟩) n cap, .slice ad m capy]).run P w = .ok (.slice (some ⟨r, 0, none⟩) (n + m) cap) w' ∧
                  w'.os = w.os ∧ w'.tape = w.tape ∧ w'.output = w.output ∧ w'.heap.size = w.heap.size ∧ (∀ j, j ≠ r → w'.heap[j]? = w.heap[j]?) ∧
                  w'.heap[r]? = some (.cells (arr.toList.take (n * sz) ++ us ++ arr.toList.drop (n * sz + us.length)).toArray ty (0, 0)) := by
                by_cases hm0 : m = 0
                · subst hm0
                  refine ⟨w, run_append_none hu hi _ _ n cap ad capy hncap w, rfl, rfl, rfl, rfl, fun _ _ => rfl, ?_⟩
                  have hus : us = [] := List.eq_nil_of_length_eq_zero (by simpa using hul)
                  rw [hus, hheap]
                  simp
                · obtain ⟨b0, rfl, hcells⟩ := hyc hm0
                  have hr := run_append_room' (P := P) hu hi o.type r n cap arr ty w hheap b0 m capy us (by rw [hul, hsz]) hcells hone hroom (by rw [hsz, hul, hasz]; exact hsize)
                  rw [hsz] at hr
                  exact ⟨_, hr, rfl, rfl, rfl, by simp [World.setRow], fun j hj => setRow_other _ _ _ _ hj, setRow_heap w r arr _ ty (0, 0) hheap⟩
              obtain ⟨w', hrun, hos, htp, hou, hhs, hoth, hhr⟩ := key
              have hset := h.set hl hc3 (blkAt_live ‹_›).2 hρ (k.cs.take (n * sz) ++ ys) (arr.toList.take (n * sz) ++ us ++ arr.toList.drop (n * sz + us.length)).toArray ty hos htp hou hhs hoth hhr
                (by simp [hul, hasz]; omega) (by rw [hnl, Nat.add_mul]; exact hsize) (by
                  have e : ((arr.toList.take (n * sz) ++ us ++ arr.toList.drop (n * sz + us.length)).toArray.toList).take (k.cs.take (n * sz) ++ ys).length = arr.toList.take (n * sz) ++ us := by
                    have hl2 : (k.cs.take (n * sz) ++ ys).length = (arr.toList.take (n * sz) ++ us).length := hnew.length
                    rw [hl2]
                    exact List.take_left
                  rw [e]
                  exact hnew) hheap (.inl (hc4 ▸ tSlice_lt ht))
              have hren := hset.rename (b := b) (k := { k with cs := k.cs.take (n * sz) ++ ys }) (by rw [hlook_hput, if_pos rfl]) id (k.cs.take (n * sz) ++ ys) sz rfl hc3 (blkAt_live hk).2 (tSlice_ne ht) (.inl (tSlice_lt ht))
              rw [show (⟨s.t, hput s.h b { k with cs := k.cs.take (n * sz) ++ ys }, s.g⟩ : St).h = hput s.h b { k with cs := k.cs.take (n * sz) ++ ys } from rfl, hdel_hput] at hren
              refine wp_of_run (exec _ _ _ _ hxav hyav hrun) (hK I (fun j => if j = id then ρ b else ρ j) _ w' ?_)
              rw [hd]
              unfold app appH appG
              refine hren.putO hN (fun y hy => ?_)
              cases hy
              exact VR_newown (bump_self _ _) (by rw [hlook_hput, if_pos rfl]) (by rw [if_pos rfl, hρ]) hroom hcapm (by rw [tSlice_mod ht]; exact hσ)
            · -- it moves
              have hm0 : m ≠ 0 := by omega
              obtain ⟨b0, rfl, hcells⟩ := hyc hm0
              have hr := run_append_grow (P := P) w t o.type e i z hu hi hzv ⟨r, 0, none⟩ n cap (arr.toList.take (n * sz)) (by simp [hsz]; omega) (fun j u hj => by
                  rw [Addr_add]
                  have := rowAt_of_heap hheap (n * sz) 0 (n * sz) j u (by simpa [List.take_take] using hj)
                  simpa using this) b0 m capy us (by rw [hul, hsz]) hcells (by omega) (by omega) (growslice_fits (by omega) (by have := Nat.mul_le_mul hc5 hby; omega))
              have hge := grownCap_ge w (n + m) cap e
              have hcm := grownCap_le_maxLen w (n + m) cap e (by unfold maxLen; omega)
              have hl3 : (k.cs.take (n * sz) ++ ys).length = (arr.toList.take (n * sz) ++ us).length := hnew.length
              have hal := hdr.alloc id w.heap.size sz (k.cs.take (n * sz) ++ ys) ((arr.toList.take (n * sz)).toArray ++ us.toArray ++ Builtin.zeroCells z.cells (grownCap w (n + m) cap e - (n + m))) e (he := tSlice_ne ht)
                (w' := w.drew.alloc (.cells ((arr.toList.take (n * sz)).toArray ++ us.toArray ++ Builtin.zeroCells z.cells (grownCap w (n + m) cap e - (n + m))) e))
                (((Below.refl _ w).drew).alloc (Nat.le_refl _) _) (Nat.le_refl _) (heap_alloc_new w.drew _) (by rw [hl3]; simp) (by
                  rw [hl3]
                  have : ((arr.toList.take (n * sz)).toArray ++ us.toArray ++ Builtin.zeroCells z.cells (grownCap w (n + m) cap e - (n + m))).toList = (arr.toList.take (n * sz) ++ us) ++ (Builtin.zeroCells z.cells (grownCap w (n + m) cap e - (n + m))).toList := by simp
                  rw [this, List.take_left]
                  exact VRs.mono (fun _ h => h) (fun _ _ _ => rfl) _ _ hMd hnew) (.inl (tSlice_lt ht))
              refine wp_of_run (exec _ _ _ _ hxav hyav hr) (hK I (fun j => if j = id then some (w.heap.size, ((arr.toList.take (n * sz)).toArray ++ us.toArray ++ Builtin.zeroCells z.cells (grownCap w (n + m) cap e - (n + m))).size) else ρ j) _ _ ?_)
              rw [hd]
              unfold app appH appG
              refine hal.putO hN (fun y hy => ?_)
              cases hy
              refine VR_newown (bump_self _ _) (by rw [hlook_hput, if_pos rfl]) (if_pos rfl) hge hcm ?_
              rw [show (Blk.esz ⟨_, false, sz⟩) % 4096 = sz from tSlice_mod ht]
              have h5 : (arr.toList.take (n * sz)).length = n * sz := by simp; omega
              simp only [Array.size_append, zeros_size, hzs, List.size_toArray, hul, h5]
              rw [← Nat.add_mul, ← Nat.add_mul]
              congr 1
              omega
        · cases he
      · cases he
    · cases he
  · cases he
end ops
end
end Go.Am
namespace Go.Am
set_option linter.unusedSimpArgs false
set_option linter.unusedVariables false
open Go.RowKit
section
variable {P:Program} {w0:Base} {I0:Nat→Prop} {N:Nat} {I:Nat→Prop} {ρ:Nat→Place} {s:St} {a:Act} {w:World} {M:Option Mode}
theorem eqs_cons {b:Bool} {ks:List Bool} {x y:AV} {xs ys:List AV} {r:Bool} (h:eqs (b::ks) (x::xs) (y::ys)=some r) :
  ∃ r1 r2,eqs [b] [x] [y]=some r1∧eqs ks xs ys=some r2∧r=(r1&&r2):=by
 cases b<;>cases x<;>cases y<;>simp only[eqs,reduceCtorEq] at h
 ·split at h
  ·rename_i hk
   split at h
   ·rename_i q hq
    cases h
    exact⟨_,q,by simp only[eqs,if_pos hk];rfl,hq,by simp⟩
   ·cases h
  ·cases h
 ·split at h
  ·rename_i q hq
   cases h
   exact⟨_,q,by simp only[eqs];rfl,hq,by simp⟩
  ·cases h
theorem eqs_len:∀ {ks:List Bool} {xs ys:List AV} {r:Bool},eqs ks xs ys=some r→xs.length=ks.length∧ys.length=ks.length
 | [],[],[],_,_=>⟨rfl,rfl⟩
 | [],_::_,_,_,h=>by simp[eqs] at h
 | [],[],_::_,_,h=>by simp[eqs] at h
 | _::_,[],_,_,h=>by simp[eqs] at h
 | _::_,_::_,[],_,h=>by simp[eqs] at h
 | b::ks,x::xs,y::ys,r,h=>by
  obtain⟨r1,r2,_,h2,_⟩:=eqs_cons h
  have:=eqs_len h2
  simp[this.1,this.2]
theorem eqs_split:∀(k1:List Bool) {k2:List Bool} {xs ys:List AV} {r:Bool},eqs (k1++k2) xs ys=some r→∃ r1 r2,eqs k1 (xs.take k1.length) (ys.take k1.length)=some r1∧eqs k2 (xs.drop k1.length) (ys.drop k1.length)=some r2∧r=(r1&&r2)
 | [],k2,xs,ys,r,h=>⟨true,r,by simp[eqs],by simpa using h,by simp⟩
 | b::k1,k2,[],ys,r,h=>by cases b<;>simp[eqs] at h
 | b::k1,k2,x::xs,[],r,h=>by cases b<;>simp[eqs] at h
 | b::k1,k2,x::xs,y::ys,r,h=>by
  obtain⟨r1,r2,h1,h2,rfl⟩:=eqs_cons h
  obtain⟨r3,r4,h3,h4,rfl⟩:=eqs_split k1 h2
  refine⟨r1&&r3,r4, ?_,by simpa using h4,by simp[Bool.and_assoc]⟩
  simp only[List.length_cons,List.take_succ_cons]
  cases b<;>cases x<;>cases y<;>simp only[eqs,reduceCtorEq] at h1
  ·split at h1
   ·rename_i hk
    simp at h1
    subst h1
    simp only[eqs,if_pos hk,h3]
   ·cases h1
  ·simp at h1
   subst h1
   simp only[eqs,h3]
def packed (P:Program) (t:TypeId) (us:List Value):Value :=
 match P.underlying t with
 | some (.struct _)|some (.array _ _)=>.agg us.toArray
 | _=>us.headD undef
def EqOk (P:Program) (d:Nat) (t:TypeId) (ks:List Bool):Prop :=
 ∀(w:World) (I:Nat→Prop) (M:Option Mode) (D:Nat) (xs ys:List AV) (us vs:List Value) (r:Bool),eqs ks xs ys=some r→VRs I w M xs us→VRs I w M ys vs →
  (Op.equalIn (D+d) t (packed P t us) (packed P t vs)).run P w=.ok r w
theorem run_part_packed {t:TypeId} {n:Nat} (hs:(P.info? t).map (·.size)=some n) (hu:∃ d,P.underlying t=some d) (hone:(match P.underlying t with|some (.struct _)|some (.array _ _)=>True|_=>n=1)) {us:List Value} {off:Nat} (hl:off+n≤us.length) (w:World) :
  (part t us.toArray off).run P w=.ok (packed P t ((us.drop off).take n)) w:=by
 obtain⟨d,hu⟩:=hu
 cases hi:P.info? t with
 | none=>simp[hi] at hs
 | some i =>
  have hn:i.size=n:=by simpa [hi] using hs
  have ex:(us.toArray.extract off (off+n))=((us.drop off).take n).toArray:=by
   apply Array.ext'
   simp[Array.toList_extract,List.extract_eq_take_drop]
  rw[hu] at hone
  unfold packed
  rw[hu]
  cases d
  case struct=>simp[part,isAgg,run_underlying hu,run_sizeOf' hi,hn,ex]
  case array=>simp[part,isAgg,run_underlying hu,run_sizeOf' hi,hn,ex]
  all_goals
   simp only[] at hone
   subst hone
   have hlt:off<us.length:=by omega
   have hd:(us.drop off).take 1=[us[off]]:=by
    rw[List.drop_eq_getElem_cons hlt]
    rfl
   rw[hd]
   simp[part,isAgg,run_underlying hu,hlt]
theorem flat_size {d:Nat} {t:TypeId} {ks:List Bool} (h:flatT P d t=some ks):(∃ k,P.underlying t=some k)∧(match P.underlying t with|some (.struct _)|some (.array _ _)=>True|_=>ks.length=1):=by
 cases d with
 | zero=>simp[flatT] at h
 | succ d =>
  unfold flatT at h
  split at h
  ·rename_i hu;rw[hu];simp at h;subst h;exact⟨⟨_,rfl⟩,rfl⟩
  ·rename_i hu;rw[hu];simp at h;subst h;exact⟨⟨_,rfl⟩,rfl⟩
  ·rename_i hu;rw[hu];exact⟨⟨_,rfl⟩,trivial⟩
  ·rename_i hu;rw[hu];exact⟨⟨_,rfl⟩,trivial⟩
  ·cases h
theorem eqFields_ok {d:Nat} (hE:∀ t ks,flatT P d t=some ks→EqOk P d t ks) (D:Nat):∀(fs:List Field) (n:Nat) (ks:List Bool) (xs ys:List AV) (us vs:List Value) (r:Bool) (w:World),flatF P (flatT P d) n fs=some ks →
  eqs ks (xs.drop n) (ys.drop n)=some r→VRs I w M xs us→VRs I w M ys vs→(Op.eqFields (D+d) us.toArray vs.toArray fs).run P w=.ok r w
 | [],n,ks,xs,ys,us,vs,r,w,hf,he,hx,hy=>by
  simp[flatF] at hf
  subst hf
  obtain⟨h1,h2⟩:=eqs_len he
  rw[List.eq_nil_of_length_eq_zero h1,List.eq_nil_of_length_eq_zero h2] at he
  simp[eqs] at he
  subst he
  simp[Op.eqFields]
 | f::fs,n,ks,xs,ys,us,vs,r,w,hf,he,hx,hy=>by
  simp only[flatF] at hf
  split at hf
  ·cases hf
  ·rename_i hname
   split at hf
   ·rename_i q hq
    split at hf
    ·rename_i hc
     obtain⟨hoff,hsz⟩:=hc
     split at hf
     ·rename_i rest hrest
      cases hf
      obtain⟨r1,r2,h1,h2,rfl⟩:=eqs_split q he
      simp only[List.drop_drop] at h2
      have ih:=eqFields_ok hE D fs (n+q.length) rest xs ys us vs r2 w hrest h2 hx hy
      obtain⟨hud,hone⟩:=flat_size hq
      have hxl:=hx.length
      have hyl:=hy.length
      obtain⟨l1,l2⟩:=eqs_len h1
      simp at l1 l2
      by_cases hq0:q.length=0
      ·-- nothing to be held against each other
       have p1:∀ zs:List Value,(part f.type zs.toArray n).run P w=.ok (packed P f.type ((zs.drop n).take q.length)) w:=by
        intro zs
        rw[hq0] at hsz hone ⊢
        obtain⟨kd,hu⟩:=hud
        rw[hu] at hone
        cases hi:P.info? f.type with
        | none=>simp[hi] at hsz
        | some i =>
         have hn:i.size=0:=by simpa [hi] using hsz
         unfold packed
         rw[hu]
         cases kd<;>simp at hone
         ·simp[part,isAgg,run_underlying hu,run_sizeOf' hi,hn]
         ·simp[part,isAgg,run_underlying hu,run_sizeOf' hi,hn]
       have h3:=hE f.type q hq w I M D _ _ _ _ r1 h1 ((hx.drop n).take q.length) ((hy.drop n).take q.length)
       simp only[Op.eqFields,if_pos hname,Sem.run_bind,hoff,p1,Result.andThen_ok,h3]
       cases r1
       ·simp
       ·simpa using ih
      ·have p1:=run_part_packed (P:=P) hsz hud hone (us:=us) (off:=n) (by omega) w
       have p2:=run_part_packed (P:=P) hsz hud hone (us:=vs) (off:=n) (by omega) w
       have h3:=hE f.type q hq w I M D _ _ _ _ r1 h1 ((hx.drop n).take q.length) ((hy.drop n).take q.length)
       simp only[Op.eqFields,if_pos hname,Sem.run_bind,hoff,p1,p2,Result.andThen_ok,h3]
       cases r1
       ·simp
       ·simpa using ih
     ·cases hf
    ·cases hf
   ·cases hf
theorem eqItems_ok {d:Nat} {ks:List Bool} {e:TypeId} (hE:EqOk P d e ks) (hfl:flatT P d e=some ks) (hsz:(P.info? e).map (·.size)=some ks.length) (h0:ks.length≠0) (D:Nat):∀(k i:Nat) (xs ys:List AV) (us vs:List Value) (r:Bool) (w:World),
  eqs (List.replicate k ks).flatten (xs.drop (i*ks.length)) (ys.drop (i*ks.length))=some r→VRs I w M xs us→VRs I w M ys vs→(Op.eqItems (D+d) e ks.length us.toArray vs.toArray (List.range' i k)).run P w=.ok r w
 | 0,i,xs,ys,us,vs,r,w,he,hx,hy=>by
  simp only[List.replicate_zero,List.flatten_nil] at he
  obtain⟨h1,h2⟩:=eqs_len he
  rw[List.eq_nil_of_length_eq_zero h1,List.eq_nil_of_length_eq_zero h2] at he
  simp[eqs] at he
  subst he
  simp[Op.eqItems]
 | k+1,i,xs,ys,us,vs,r,w,he,hx,hy=>by
  rw[List.replicate_succ,List.flatten_cons] at he
  obtain⟨r1,r2,h1,h2,rfl⟩:=eqs_split ks he
  simp only[List.drop_drop] at h2
  have e1:i*ks.length+ks.length=(i+1)*ks.length:=by rw[Nat.succ_mul]
  rw[e1] at h2
  have ih:=eqItems_ok hE hfl hsz h0 D k (i+1) xs ys us vs r2 w h2 hx hy
  obtain⟨hud,hone⟩:=flat_size hfl
  have hxl:=hx.length
  have hyl:=hy.length
  obtain⟨l1,l2⟩:=eqs_len h1
  simp at l1 l2
  have p1:=run_part_packed (P:=P) hsz hud hone (us:=us) (off:=i*ks.length) (by omega) w
  have p2:=run_part_packed (P:=P) hsz hud hone (us:=vs) (off:=i*ks.length) (by omega) w
  have h3:=hE w I M D _ _ _ _ r1 h1 ((hx.drop (i*ks.length)).take ks.length) ((hy.drop (i*ks.length)).take ks.length)
  rw[List.range'_succ]
  simp only[Op.eqItems,Sem.run_bind,p1,p2,Result.andThen_ok,h3]
  cases r1
  ·simp
  ·simpa using ih
theorem flat_EqOk:∀(d:Nat) (t:TypeId) (ks:List Bool),flatT P d t=some ks→EqOk P d t ks
 | 0,t,n,h=>by simp[flatT] at h
 | d+1,t,ks,h=>by
  intro w I M D xs ys us vs r he hx hy
  unfold flatT at h
  split at h
  ·rename_i hu
   simp at h;subst h
   obtain⟨l1,l2⟩:=eqs_len he
   match xs,ys,l1,l2 with
   | [x],[y],_,_ =>
    cases x<;>cases y<;>simp only[eqs,reduceCtorEq] at he
    match us,vs,hx,hy with
    | [u],[v],hx,hy =>
     simp only[VRs] at hx hy
     have e1:=VR_bool hx.1
     have e2:=VR_bool hy.1
     simp only[packed,hu,List.headD_cons,e1,e2]
     rw[← Nat.add_assoc,run_equalIn_bool _ _ _ _ _ hu]
     simp at he
     subst he
     rfl
  ·rename_i k hu
   simp at h;subst h
   obtain⟨l1,l2⟩:=eqs_len he
   match xs,ys,l1,l2 with
   | [x],[y],_,_ =>
    cases x<;>cases y<;>simp only[eqs,reduceCtorEq] at he
    split at he
    ·rename_i hk
     subst hk
     match us,vs,hx,hy with
     | [u],[v],hx,hy =>
      simp only[VRs] at hx hy
      have e1:=VR_int hx.1
      have e2:=VR_int hy.1
      simp only[packed,hu,List.headD_cons,e1,e2]
      rw[← Nat.add_assoc,run_equalIn_int _ _ _ _ k _ _ hu]
      simp at he
      subst he
      rfl
    ·cases he
  ·rename_i fs hu
   split at h
   ·cases h
   ·rename_i hst
    have hf:P.fieldsOf t=fs:=by simp[Program.fieldsOf,hu]
    simp only[packed,hu]
    rw[← Nat.add_assoc,run_equalIn_struct (P:=P) w (D+d) t us.toArray vs.toArray (by rw[hf];exact hu) (by simpa using hst),hf]
    exact eqFields_ok (fun t n h=>flat_EqOk d t n h) D fs.toList 0 ks xs ys us vs r w h (by simpa using he) hx hy
  ·rename_i k e hu
   split at h
   ·rename_i m hm
    split at h
    ·rename_i hsz
     simp at h;subst h
     cases hi:P.info? e with
     | none=>simp[hi] at hsz
     | some i =>
      have hc:P.cellsOf e=m.length:=by simpa [Program.cellsOf,hi] using hsz.1
      simp only[packed,hu]
      rw[← Nat.add_assoc,run_equalIn_array w (D+d) us.toArray vs.toArray hu hi,hc,List.range_eq_range']
      exact eqItems_ok (flat_EqOk d e m hm) hm hsz.1 hsz.2 D k 0 xs ys us vs r w (by simpa using he) hx hy
    ·cases h
   ·cases h
  ·cases h
section ops
variable {o:Oper} {ao:AOper} {C:Cs}
theorem sim_eqa (hd:o.dst=ao.d) (hN:∀ n,ao.d=some n→n<N) (neg:Bool) (t t':TypeId) (x y:Operand) (x' y':AOpd) (ks:List Bool) (ho:o.op=.binOp (if neg then .neq else .eql) t x y t') (hao:ao.op=.eqa neg ks x' y') (hx:mOpd x x'=true) (hy:mOpd y y'=true)
  (hf:flatT P 20 t=some ks) (hg:P.eqGuardType P.depth t=false) (ha:match P.underlying t with|some (.struct _)|some (.array _ _)=>True|_=>False):Sim P N o C ao:=by
 intro w0 I0 I ρ s a w e K Q h he hK
 unfold eff at he
 rw[hao] at he
 simp only[] at he
 have hxv:=h.opd hx
 have hyv:=h.opd hy
 split at he
 ·rename_i xs ys hb hb'
  rw[hb] at hxv
  rw[hb'] at hyv
  obtain⟨us,e1,hus⟩:=VR_agg hxv
  obtain⟨vs,e2,hvs⟩:=VR_agg hyv
  split at he
  ·rename_i r hr
   have:=val_ok he;subst this
   have hpk:∀ us:List Value,packed P t us=.agg us.toArray:=by
    intro us
    unfold packed
    revert ha
    split<;>simp
   have hE:=flat_EqOk 20 t ks hf w I (modeOf s ρ) 9980 xs ys us vs r hr hus hvs
   rw[hpk,hpk] at hE
   refine close_val h hd hN hK (v:=.bool (if neg then !r else r)) ?_ (by simp[VR])
   cases neg
   ·simp only[execOp,ho,e1,e2,Bool.false_eq_true,if_false,Sem.run_bind,run_eqGuard_agg w _ t x y us.toArray vs.toArray hg,Result.andThen_ok,run_eql_struct,hE]
    rfl
   ·simp only[execOp,ho,e1,e2,if_true,Sem.run_bind,run_eqGuard_agg w _ t x y us.toArray vs.toArray hg,Result.andThen_ok,run_neq_struct,hE]
    rfl
  ·cases he
 ·cases he
theorem sim_clear (hd:o.dst=ao.d) (hN:∀ n,ao.d=some n→n<N) (t:TypeId) (x:Operand) (x':AOpd) (sz:Nat) (z:List AV) (ho:o.op=.call { callee:=.builtin .clear,args:=#[x],argTypes:=#[t] }) (hao:ao.op=.clear x' sz z) (hx:mOpd x x'=true) (ht:tSlice P t sz=true) (hz:tSliceZ P t z=true) (hzc:z.all AV.isCell=true):Sim P N o C ao:=by
 intro w0 I0 I ρ s a w e' K Q h he hK
 unfold eff at he
 rw[hao] at he
 simp only[] at he
 have hxv:=h.opd hx
 obtain⟨e,i,zv,hu,hi,hzv,hsz,hpos,hzs,hby⟩:=tSlice_spec ht
 obtain⟨v,hrun,hvs⟩:=run_zero (P:=P) (tSliceZ_spec hz hu)
 have hvz:v=zv:=by
  have:=hrun w
  simp[zeroValue,typeInfo,hi,hzv] at this
  exact this.symm
 subst hvz
 have hzl:z.length=sz:=by rw[(hvs I w none).length];simpa using hzs
 split at he
 ·rename_i b g p n hp
  rw[hp] at hxv
  split at he
  ·rename_i k hk
   split at he
   ·rename_i hc
    cases he
    obtain⟨hg,hl,hA,hok⟩:=h.blk hk
    simp only[VR,modeOf] at hxv
    have hx2:=hxv.2.2 _ hA
    simp only[] at hx2
    by_cases hn0:n=0
    ·subst hn0
     have hsame:(⟨s.t,hput s.h b { k with cs:=wr k.cs p (rep 0 z) },s.g⟩:St)=⟨s.t,hput s.h b k,s.g⟩:=by
      have:wr k.cs p (rep 0 z)=k.cs:=by simp[wr,rep]
      rw[this]
     have hputsame:∀ h:Hp,hlook h b=some k→∀ j,hlook (hput h b k) j=hlook h j:=by
      intro h hh j
      rw[hlook_hput]
      split
      ·rename_i e;rw[← e,hh]
      ·rfl
     have hdr:=h.drop (t':=s.t) (h':=hput s.h b k) (fun _=>.inr rfl) (fun j=>.inr (hputsame s.h hl j))
     have hrun2:(execOp a.eval o).run P w=.ok (.value (.tuple #[])) w:=by
      cases hρ:ρ b with
      | none =>
       rw[hρ] at hx2
       simp[execOp,ho,resolve,invoke,builtin,Builtin.clear_,run_underlying hu,hx2.1]
      | some rs =>
       obtain⟨r,σ⟩:=rs
       rw[hρ] at hx2
       obtain⟨ad,cap,hav,_⟩:=hx2
       cases ad with
       | none=>simp[execOp,ho,resolve,invoke,builtin,Builtin.clear_,run_underlying hu,hav]
       | some ad=>simp[execOp,ho,resolve,invoke,builtin,Builtin.clear_,run_underlying hu,hav]
     refine wp_of_run hrun2 (hK I ρ _ w ?_)
     rw[hd]
     unfold app appH appG
     have:=hdr.putO (d:=ao.d) (x:=none) (v:=.tuple #[]) hN (fun y hy=>by cases hy)
     have e3:wr k.cs p (rep 0 z)=k.cs:=by simp[wr,rep]
     simp only[e3]
     exact this
    ·cases hρ:ρ b with
     | none =>
      rw[hρ] at hx2
      exact absurd hx2.2.1 hn0
     | some rs =>
      obtain⟨r,σ⟩:=rs
      rw[hρ] at hx2 hok
      obtain⟨ad,cap,hav,_,_,h4⟩:=hx2
      have had:ad=some ⟨r,p,none⟩:=by
       rcases h4 with⟨h4,_⟩|⟨h4,_⟩
       ·exact absurd h4 hn0
       ·exact h4
      subst had
      obtain⟨hr0,_,hnf,hlen,arr,ty,hheap,hasz,hvv⟩:=hok
      have hrep:=VRs_rep (hvs I w (modeOf s ρ)) n
      have hrl:(rep n z).length=n*sz:=by simp[rep,List.length_flatten,hzl]
      have hrl2:(List.replicate n v.cells.toList).flatten.length=n*sz:=by rw[← hrep.length];exact hrl
      have hone:=VRs_oneCell hrep (by
       unfold rep
       rw[List.all_eq_true]
       intro y hy
       rw[List.mem_flatten] at hy
       obtain⟨l,hl1,hl2⟩:=hy
       rw[List.mem_replicate] at hl1
       rw[hl1.2] at hl2
       rw[List.all_eq_true] at hzc
       exact hzc y hl2)
      have hcl:=hvv.length
      simp at hcl
      have hst:=run_storeCells_at P r p ty (List.replicate n v.cells.toList).flatten 0 arr w hheap (by rw[hrl2];omega) hone
      simp only[Nat.add_zero] at hst
      have hw2:=hvv.wr hrep p
      have hzcells:(Builtin.zeroCells v.cells n).toList=(List.replicate n v.cells.toList).flatten:=range_zero v.cells n
      have hR:=h.set hl hc.2 (blkAt_live ‹_›).2 hρ (wr k.cs p (rep n z)) (arr.toList.take p++(List.replicate n v.cells.toList).flatten++arr.toList.drop (p+(List.replicate n v.cells.toList).flatten.length)).toArray ty
       (w':=w.setRow r (arr.toList.take p++(List.replicate n v.cells.toList).flatten++arr.toList.drop (p+(List.replicate n v.cells.toList).flatten.length)).toArray)
       rfl rfl rfl (by simp[World.setRow]) (fun j hj=>setRow_other _ _ _ _ hj) (setRow_heap w r arr _ ty (0,0) hheap) (by simp only[List.size_toArray,List.length_append,List.length_take,List.length_drop,hrl2,Array.length_toList];omega) (by simp only[wr,List.length_append,List.length_take,List.length_drop,hrl];omega) (by
        have e:(wr k.cs p (rep n z)).length=k.cs.length:=by simp only[wr,List.length_append,List.length_take,List.length_drop,hrl];omega
        have e2:((arr.toList.take p++(List.replicate n v.cells.toList).flatten++arr.toList.drop (p+(List.replicate n v.cells.toList).flatten.length)).toArray.toList).take (wr k.cs p (rep n z)).length =
          ((arr.toList.take k.cs.length).take p++(List.replicate n v.cells.toList).flatten++(arr.toList.take k.cs.length).drop (p+(List.replicate n v.cells.toList).flatten.length)):=by
         rw[e]
         simp only[List.take_take,List.take_append,List.length_take,List.length_append,Array.length_toList]
         have:min p k.cs.length=p:=by omega
         rw[Nat.min_comm k.cs.length p,this]
         have e5:List.take (k.cs.length-min p arr.size) (List.replicate n v.cells.toList).flatten=(List.replicate n v.cells.toList).flatten:=List.take_of_length_le (by rw[hrl2];omega)
         rw[e5,List.drop_take]
         congr 2
         rw[hrl2]
         omega
        rw[e2]
        exact hw2) hheap (.inr (.inr (by simp only[wr,List.length_append,List.length_take,List.length_drop,hrl];omega)))
      refine wp_of_run (v:=.tuple #[]) (w':=w.setRow r (arr.toList.take p++(List.replicate n v.cells.toList).flatten++arr.toList.drop (p+(List.replicate n v.cells.toList).flatten.length)).toArray) ?_ (hK I ρ _ _ ?_)
      ·have hne:∀ q:Nat,n≠0:=fun _=>hn0
       cases n with
       | zero=>exact absurd rfl hn0
       | succ n =>
        simp only[execOp,ho,resolve,invoke,builtin,Builtin.clear_,Sem.run_bind,Sem.run_pure,Result.andThen_ok,List.map_toArray,List.map_cons,List.map_nil,hav]
        simp[run_underlying hu,hrun,hzcells,hst]
      ·rw[hd]
       exact hR.putO hN (fun y hy=>by cases hy)
   ·cases he
  ·cases he
 ·rename_i hp
  rw[hp] at hxv
  cases he
  have hxav:a.eval x=.slice none 0 0:=by simpa [VR] using hxv
  refine wp_of_run (v:=.tuple #[]) (w':=w) (by simp[execOp,ho,resolve,invoke,builtin,Builtin.clear_,run_underlying hu,hxav]) (hK I ρ _ w ?_)
  rw[hd]
  exact h.putO hN (fun y hy=>by cases hy)
 ·cases he
end ops
end
end Go.Am
namespace Go.Am
set_option linter.unusedSimpArgs false
set_option linter.unusedVariables false
open Go.RowKit
section
variable {P:Program} {w0:Base} {I0:Nat→Prop} {N:Nat} {I:Nat→Prop} {ρ:Nat→Place} {s:St} {a:Act} {w:World} {M:Option Mode}
def tMap (P:Program) (t:TypeId) (z:AV):Bool :=
 match P.underlying t with
 | some (.map k e)=>(match P.underlying k with|some (.int .i64)=>true|_=>false)&&z.flat&&(match P.info? e with
  | some i=>match i.zero with
   | some v=>cval z v
   | none=>false
  | none=>false)
 | _=>false
theorem tMap_spec {t:TypeId} {z:AV} (h:tMap P t z=true):∃ k e v,P.underlying t=some (.map k e)∧P.underlying k=some (.int .i64)∧z.flat=true∧(∀ w,(zeroValue e).run P w=.ok v w)∧cval z v=true:=by
 unfold tMap at h
 split at h
 ·rename_i k e hu
  simp only[Bool.and_eq_true] at h
  obtain⟨⟨h1,h2⟩,h3⟩:=h
  split at h1
  ·rename_i hk
   split at h3
   ·rename_i i hi
    split at h3
    ·rename_i v hv
     exact⟨k,e,v,hu,hk,h2,fun w=>by simp[zeroValue,typeInfo,hi,hv],h3⟩
    ·cases h3
   ·cases h3
  ·cases h1
 ·cases h
theorem flat_any {x:AV} {v:Value} (hx:x.flat=true) (h:VR I w M x v):∀ I w M,VR I w M x v:=by
 intro I' w' M'
 cases x<;>simp[AV.flat] at hx<;>simpa [VR] using h
theorem ent_kind {κ:Option Nat}:∀ {cs:List AV} {j:Nat} {es:List MapEntry},mEntK κ cs j es→isA cs=false→mEntK none cs j es
 | [],_,[],_,_=>trivial
 | [],_,_::_,h,_=>h.elim
 | [_],_,_,h,_=>by simp[mEntK] at h
 | c::x::cs,j,[],h,_=>by simp[mEntK] at h
 | c::x::cs,j,e::es,h,ha=>by
  cases κ with
  | none=>exact h
  | some m =>
   obtain⟨a,_,rfl,_⟩:=h.1
   simp[isA] at ha
theorem ent_kindA {κ:Option Nat} {m:Nat}:∀ {cs:List AV} {j:Nat} {es:List MapEntry},mEntK κ cs j es→aOk m cs=true→mEntK (some m) cs j es
 | [],_,[],_,_=>trivial
 | [],_,_::_,h,_=>h.elim
 | [_],_,_,h,_=>by simp[mEntK] at h
 | c::x::cs,j,[],h,_=>by simp[mEntK] at h
 | c::x::cs,j,e::es,h,ha=>by
  cases κ with
  | none =>
   obtain⟨n,rfl,_⟩:=h.1
   simp[aOk] at ha
  | some q =>
   obtain⟨a,h1,rfl,_⟩:=h.1
   simp[aOk] at ha
   have:q=m:=by omega
   subst this
   exact h
theorem find_ent (n:Int):∀(cs:List AV) (j:Nat) (es:List MapEntry),mEntK none cs j es →
  (mfind n cs j=none∧Instr.findNow (.int .i64) (.int .i64 n) es j=some none) ∨
  ∃ i x e,mfind n cs j=some (j+i,x)∧es[i]? = some e∧e.key=.int .i64 n∧e.born=j+i∧x.flat=true∧(∀ I w M,VR I w M x e.val)∧2*i+1<cs.length∧Instr.findNow (.int .i64) (.int .i64 n) es j=some (some (j+i,e.val))
 | [],j,[],_=>.inl ⟨by simp[mfind],rfl⟩
 | [],_,_::_,h=>by simp[mEntK] at h
 | [_],_,_,h=>by simp[mEntK] at h
 | c::x::cs,j,[],h=>by simp[mEntK] at h
 | c::x::cs,j,e::es,h=>by
  obtain⟨⟨b,rfl,h1⟩,h2,h3,h4,h5⟩:=h
  simp only[Instr.findNow,h1,Instr.sameNow,if_true,mfind]
  by_cases hb:n=b
  ·subst hb
   refine .inr ⟨0,x,e, ?_,rfl,h1,by omega,h2,h3,by simp, ?_⟩
   ·simp
   ·simp
  ·rw[if_neg hb]
   have hb2:(n==b)=false:=by simpa using hb
   simp only[hb2]
   rcases find_ent n cs (j+1) es h5 with⟨k1,k2⟩|⟨i,y,f,k1,k2,k3,k4,k5,k6,k7,k8⟩
   ·exact .inl ⟨k1,k2⟩
   ·refine .inr ⟨i+1,y,f,by rw[k1];congr 2;omega,by simpa using k2,k3,by omega,k5,k6,by simp;omega,by rw[k8];congr 3;omega⟩
theorem entK_len {κ:Option Nat}:∀(cs:List AV) (j:Nat) (es:List MapEntry),mEntK κ cs j es→cs.length=2*es.length
 | [],j,[],_=>rfl
 | [],_,_::_,h=>by simp[mEntK] at h
 | [_],_,_,h=>by simp[mEntK] at h
 | c::x::cs,j,[],h=>by simp[mEntK] at h
 | c::x::cs,j,e::es,h=>by
  have:=entK_len cs (j+1) es h.2.2.2.2
  simp
  omega
theorem ent_len (cs:List AV) (j:Nat) (es:List MapEntry) (h:mEnt cs j es):cs.length=2*es.length:=by
 obtain⟨κ,h⟩:=h
 exact entK_len cs j es h
theorem ent_push {κ:Option Nat} {k z:AV} {e:MapEntry} (h1:KeyR κ k e.key) (h2:z.flat=true) (h3:∀ I w M,VR I w M z e.val):∀(cs:List AV) (j:Nat) (es:List MapEntry),mEntK κ cs j es→e.born=j+es.length→mEntK κ (cs++[k,z]) j (es++[e])
 | [],j,[],_,hb=>by simp only[List.nil_append,mEntK];exact⟨h1,h2,h3,by simpa using hb,trivial⟩
 | [],_,_::_,h,_=>by simp[mEntK] at h
 | [_],_,_,h,_=>by simp[mEntK] at h
 | c::x::cs,j,[],h,_=>by simp[mEntK] at h
 | c::x::cs,j,f::es,h,hb=>by
  simp only[List.cons_append,mEntK]
  exact⟨h.1,h.2.1,h.2.2.1,h.2.2.2.1,ent_push h1 h2 h3 cs (j+1) es h.2.2.2.2 (by simp at hb;omega)⟩
theorem entK_get {κ:Option Nat}:∀(cs:List AV) (j:Nat) (es:List MapEntry) (i:Nat) (e:MapEntry),mEntK κ cs j es→es[i]? = some e→e.born=j+i
 | [],j,[],i,e,_,h=>by simp at h
 | [],_,_::_,_,_,h,_=>by simp[mEntK] at h
 | [_],_,_,_,_,h,_=>by simp[mEntK] at h
 | c::x::cs,j,[],_,_,h,_=>by simp[mEntK] at h
 | c::x::cs,j,f::es,i,e,h,he=>by
  cases i with
  | zero=>simp at he;subst he;simpa using h.2.2.2.1
  | succ i=>have:=entK_get cs (j+1) es i e h.2.2.2.2 (by simpa using he);omega
theorem ent_get (cs:List AV) (j:Nat) (es:List MapEntry) (i:Nat) (e:MapEntry) (h:mEnt cs j es) (he:es[i]? = some e):e.born=j+i:=by
 obtain⟨κ,h⟩:=h
 exact entK_get cs j es i e h he
theorem ent_mod {κ:Option Nat} {z:AV} {u:Value} (h2:z.flat=true) (h3:∀ I w M,VR I w M z u) (f:MapEntry→MapEntry) (hf:∀ e,(f e).key=e.key∧(f e).val=u∧(f e).born=e.born):∀(cs:List AV) (j:Nat) (es:List MapEntry) (i:Nat),mEntK κ cs j es→i<es.length →
  mEntK κ (wr cs (2*i+1) [z]) j (es.modify i f)
 | [],j,[],i,_,h=>by simp at h
 | [],_,_::_,_,h,_=>by simp[mEntK] at h
 | [_],_,_,_,h,_=>by simp[mEntK] at h
 | c::x::cs,j,[],_,h,_=>by simp[mEntK] at h
 | c::x::cs,j,e::es,i,h,hi=>by
  cases i with
  | zero =>
   simp only[wr,List.modify_zero_cons,List.take_succ_cons,List.take_zero,List.length_cons,List.length_nil,List.drop_succ_cons,Nat.mul_zero,List.cons_append,List.nil_append,Nat.zero_add,List.drop_zero,mEntK]
   exact⟨by rw[(hf e).1];exact h.1,h2,by rw[(hf e).2.1];exact h3,by rw[(hf e).2.2];exact h.2.2.2.1,h.2.2.2.2⟩
  | succ i =>
   have ih:=ent_mod h2 h3 f hf cs (j+1) es i h.2.2.2.2 (by simpa using hi)
   have e1:wr (c::x::cs) (2*(i+1)+1) [z]=c::x::wr cs (2*i+1) [z]:=by
    have e2:2*(i+1)+1=(2*i+1)+1+1:=by omega
    simp only[wr,e2,List.take_succ_cons,List.cons_append,List.length_cons,List.length_nil,Nat.zero_add]
    rw[show 2*i+1+1+1+1=(2*i+1+1)+1+1 by omega,List.drop_succ_cons,List.drop_succ_cons]
   rw[e1]
   simp only[List.modify_succ_cons,mEntK]
   exact⟨h.1,h.2.1,h.2.2.1,h.2.2.2.1,ih⟩
theorem ent_same {κ:Option Nat} (f:MapEntry→MapEntry):∀(cs:List AV) (j:Nat) (es:List MapEntry) (i:Nat),mEntK κ cs j es→(∀ e,es[i]? = some e→f e=e)→mEntK κ cs j (es.modify i f)
 | cs,j,es,i,h,hf=>by
  have:es.modify i f=es:=by
   apply List.ext_getElem?
   intro m
   rw[List.getElem?_modify]
   by_cases hm:i=m
   ·subst hm
    cases he:es[i]? with
    | none=>rfl
    | some e=>simp[hf e he]
   ·simp[hm]
  rw[this]
  exact h
theorem run_checkKey0 {k:TypeId} (hk:P.underlying k=some (.int .i64)) (b:Bool) (m:Nat) (n:Int) (w:World):(Instr.checkKey b (m+1) k (.int .i64 n)).run P w=.ok () w:=by
 simp[Instr.checkKey,run_underlying hk]
theorem run_checkKey {k:TypeId} (hk:P.underlying k=some (.int .i64)) (b:Bool) (n:Int) (w:World):(Instr.checkKey b 10000 k (.int .i64 n)).run P w=.ok () w:=run_checkKey0 hk b 9999 n w
theorem run_findKey {k:TypeId} (hk:P.underlying k=some (.int .i64)) (n:Int) (es:List MapEntry) {r:Option (Nat×Value)} (h:Instr.findNow (.int .i64) (.int .i64 n) es 0=some r) (w:World):(Instr.findKey k (.int .i64 n) es).run P w=.ok r w:=by
 simp[Instr.findKey,run_underlying hk,h]
theorem run_obj {r:Nat} {es:Array MapEntry} {c:Nat} (h:w.heap[r]? = some (.map es c)):(getObj r).run P w=.ok (.map es c) w:=by
 unfold getObj
 simp only[Sem.run,h]
theorem run_obj_set {r:Nat} {es:Array MapEntry} {c:Nat} (h:w.heap[r]? = some (.map es c)) (ob:Obj):(setObj r ob).run P w=.ok () { w with heap:=w.heap.setIfInBounds r ob }:=by
 unfold setObj
 simp only[Sem.run,h]
variable {o:Oper} {ao:AOper} {C:Cs}
theorem sim_mkmap (hd:o.dst=ao.d) (hN:∀ n,ao.d=some n→n<N) (t:TypeId) (ho:o.op=.makeMap t none) (hao:ao.op=.mkmap):Sim P N o C ao:=by
 intro w0 I0 I ρ s a w e K Q h he hK
 unfold eff at he
 rw[hao] at he
 simp only[] at he
 split at he
 ·rename_i d hdd
  cases he
  have hr:(execOp a.eval o).run P w=.ok (.value (.map (some w.heap.size))) { w with heap:=w.heap.push (.map #[] 0) }:=by
   simp[execOp,ho,Instr.makeMap]
  have h1:=h.allocM d (below_push w _) (heap_push_new w (.map #[] 0))
  refine wp_of_run hr (hK I (fun b=>if b=d then some (w.heap.size,0) else ρ b) _ _ ?_)
  rw[hd]
  refine h1.putO hN (fun y hy=>?_)
  cases hy
  simp only[VR,modeOf]
  refine⟨⟨_,rfl⟩,by simp[bump],fun L hL=>?_⟩
  simp[aliveA,bump,hlook_hput] at hL
  subst hL
  exact⟨w.heap.size,0,rfl,rfl⟩
 ·cases he
theorem sim_mget (hd:o.dst=ao.d) (hN:∀ n,ao.d=some n→n<N) (t:TypeId) (x y:Operand) (x' y':AOpd) (z:AV) (ho:o.op=.lookup t x y false) (hao:ao.op=.mget x' y' z) (hx:mOpd x x'=true) (hy:mOpd y y'=true) (ht:tMap P t z=true):Sim P N o C ao:=by
 intro w0 I0 I ρ s a w e K Q h he hK
 obtain⟨kt,et,zv,hu,hk,hz,hzr,hzv⟩:=tMap_spec ht
 unfold eff at he
 rw[hao] at he
 simp only[] at he
 have hxv:=h.opd hx
 have hyv:=h.opd hy
 split at he
 ·rename_i b g n hp hq
  rw[hp] at hxv
  rw[hq] at hyv
  have hyv:=VR_int hyv
  split at he
  ·rename_i q hm
   obtain⟨r,σ,es,hρ,hav,hl,hqt,hw,hent⟩:=h.mapped hm hxv
   have hobj:(getObj r).run P w=.ok (.map es es.size) w:=run_obj hw
   split at he
   ·cases he
   rename_i hnA
   obtain⟨κ,hent⟩:=hent
   have hent:=ent_kind hent (by simpa using hnA)
   rcases find_ent n q.cs 0 es.toList hent with⟨h1,h2⟩|⟨i,x0,f,h1,h2,h3,h4,h5,h6,h7,h8⟩
   ·unfold mgetV at he
    rw[h1] at he
    have he:=val_ok he
    subst he
    refine close_val h hd hN hK (v:=zv) ?_ (cval_VR _ _ hzv)
    simp[execOp,ho,hav,hyv,Instr.lookup,run_underlying hu,hobj,run_checkKey hk,run_findKey hk n es.toList h2,hzr]
   ·unfold mgetV at he
    rw[h1] at he
    have he:=val_ok he
    subst he
    refine close_val h hd hN hK (v:=f.val) ?_ (h6 _ _ _)
    simp[execOp,ho,hav,hyv,Instr.lookup,run_underlying hu,hobj,run_checkKey hk,run_findKey hk n es.toList h8]
  ·cases he
 ·cases he
theorem run_stays {k:IntKind} {n:Int} (w:World):(Instr.keyThatStays (.int k n) (.int k n)).run P w=.ok (.int k n) w:=by
 have h:Instr.sameBits 10000 (.int k n) (.int k n)=true:=by
  show Instr.sameBits (9999+1) (.int k n) (.int k n)=true
  simp[Instr.sameBits]
 simp[Instr.keyThatStays,h]
theorem keyI (n:Int):KeyR none (.int .i64 n) (.int .i64 n):=⟨n,rfl,rfl⟩
theorem push_ent {κ:Option Nat} {k z:AV} {kv u:Value} (hk:KeyR κ k kv) (hz:z.flat=true) (hu:∀ I w M,VR I w M z u) {cs:List AV} {es:Array MapEntry} (h:mEntK κ cs 0 es.toList) :
  mEntK κ (cs++[k,z]) 0 (es.push { key:=kv,val:=u,born:=es.size }).toList:=by
 rw[Array.toList_push]
 exact ent_push (e:={ key:=kv,val:=u,born:=es.size }) hk hz hu cs 0 es.toList h (by simp)
theorem sim_ment (hd:o.dst=ao.d) (hN:∀ n,ao.d=some n→n<N) (t:TypeId) (x y:Operand) (x' y':AOpd) (z:AV) (ho:o.op=.mapEntry t x y) (hao:ao.op=.ment x' y' z) (hx:mOpd x x'=true) (hy:mOpd y y'=true) (ht:tMap P t z=true):Sim P N o C ao:=by
 intro w0 I0 I ρ s a w e K Q h he hK
 obtain⟨kt,et,zv,hu,hk,hz,hzr,hzv⟩:=tMap_spec ht
 unfold eff at he
 rw[hao] at he
 simp only[] at he
 have hxv:=h.opd hx
 have hyv:=h.opd hy
 split at he
 ·rename_i b g n hp hq
  rw[hp] at hxv
  rw[hq] at hyv
  have hyv:=VR_int hyv
  split at he
  ·rename_i q hm
   split at he
   ·rename_i hfz
    obtain⟨hfz,hnA⟩:=hfz
    obtain⟨r,σ,es,hρ,hav,hl,hqt,hw,hent⟩:=h.mapped hm hxv
    have hr:r<w.heap.size:=(Array.getElem?_eq_some_iff.1 hw).1
    have hobj:(getObj r).run P w=.ok (.map es es.size) w:=run_obj hw
    have hlen:=ent_len _ _ _ hent
    obtain⟨κ,hent⟩:=hent
    have hent:=ent_kind hent hnA
    rcases find_ent n q.cs 0 es.toList hent with⟨h1,h2⟩|⟨i,x0,f,h1,h2,h3,h4,h5,h6,h7,h8⟩
    ·rw[h1] at he
     cases he
     have hzu:∀ I w M,VR I w M z zv:=fun _ _ _=>cval_VR _ _ hzv
     have hR:=h.setM hl hfz hqt hρ (q.cs++[.int .i64 n,z]) (es.push { key:=.int .i64 n,val:=zv,born:=es.size }) hr ⟨none,push_ent (keyI n) hz hzu hent⟩
     refine wp_of_run (v:=.tuple #[zv,goInt es.size]) (w':={ w with heap:=w.heap.setIfInBounds r (.map (es.push { key:=.int .i64 n,val:=zv,born:=es.size }) (es.push { key:=.int .i64 n,val:=zv,born:=es.size }).size) }) ?_ (hK I ρ _ _ ?_)
     ·simp[execOp,ho,hav,hyv,Instr.mapEntry,run_underlying hu,hobj,run_checkKey hk,run_findKey hk n es.toList h2,hzr,run_obj_set hw]
     ·rw[hd]
      refine hR.putO hN (fun y hy=>?_)
      cases hy
      have e1:q.cs.length/2=es.size:=by have:=hlen;simp at this;omega
      simp only[VR,VRs]
      exact⟨[zv,goInt es.size],rfl,hzu _ _ _,by rw[e1];rfl,trivial⟩
    ·rw[h1] at he
     cases he
     have hf:es[i]? = some f:=by simpa using h2
     have hR:=h.setM hl hfz hqt hρ q.cs (es.modify i fun e=>{ e with key:=.int .i64 n }) hr ⟨none,by
      rw[Array.toList_modify]
      exact ent_same _ q.cs 0 es.toList i hent (fun e he=>by rw[h2] at he;cases he;rw[← h3])⟩
     refine wp_of_run (v:=.tuple #[f.val,goInt i]) (w':={ w with heap:=w.heap.setIfInBounds r (.map (es.modify i fun e=>{ e with key:=.int .i64 n }) (es.modify i fun e=>{ e with key:=.int .i64 n }).size) }) ?_ (hK I ρ _ _ ?_)
     ·simp[execOp,ho,hav,hyv,Instr.mapEntry,run_underlying hu,hobj,run_checkKey hk,run_findKey hk n es.toList h8,hf,h3,h4,run_stays,run_obj_set hw]
     ·rw[hd]
      refine hR.putO hN (fun y hy=>?_)
      cases hy
      simp only[VR,VRs]
      exact⟨[f.val,goInt i],rfl,h6 _ _ _,by simp[goInt,VR],trivial⟩
   ·cases he
  ·cases he
 ·cases he
theorem findIdx_born {κ:Option Nat}:∀(cs:List AV) (j:Nat) (es:List MapEntry) (i:Nat),mEntK κ cs j es→i<es.length→es.findIdx? (fun e=>(e.born:Int)==((j+i:Nat):Int))=some i
 | [],j,[],i,_,h=>by simp at h
 | [],_,_::_,_,h,_=>by simp[mEntK] at h
 | [_],_,_,_,h,_=>by simp[mEntK] at h
 | c::x::cs,j,[],_,h,_=>by simp[mEntK] at h
 | c::x::cs,j,e::es,i,h,hi=>by
  rw[List.findIdx?_cons,h.2.2.2.1]
  cases i with
  | zero=>simp
  | succ i =>
   have ih:=findIdx_born cs (j+1) es i h.2.2.2.2 (by simpa using hi)
   have e1:((j:Int)==((j+(i+1):Nat):Int))=false:=by rw[beq_eq_false_iff_ne];omega
   rw[e1]
   rw[show j+(i+1)=j+1+i by omega,ih]
   rfl
theorem sim_mset (hd:o.dst=ao.d) (hN:∀ n,ao.d=some n→n<N) (t:TypeId) (x y v:Operand) (x' y' v':AOpd) (ho:o.op=.entryStore t x y v) (hao:ao.op=.mset x' y' v') (hx:mOpd x x'=true) (hy:mOpd y y'=true) (hv:mOpd v v'=true):Sim P N o C ao:=by
 intro w0 I0 I ρ s a w e K Q h he hK
 unfold eff at he
 rw[hao] at he
 simp only[] at he
 have hxv:=h.opd hx
 have hyv:=h.opd hy
 have hvv:=h.opd hv
 split at he
 ·rename_i b g n hp hq
  rw[hp] at hxv
  rw[hq] at hyv
  have hyv:=VR_int hyv
  split at he
  ·rename_i q hm
   split at he
   ·rename_i hc
    obtain⟨hfz,hn0,hn1,hfl⟩:=hc
    cases he
    obtain⟨r,σ,es,hρ,hav,hl,hqt,hw,hent⟩:=h.mapped hm hxv
    have hr:r<w.heap.size:=(Array.getElem?_eq_some_iff.1 hw).1
    have hobj:(getObj r).run P w=.ok (.map es es.size) w:=run_obj hw
    obtain⟨i,rfl⟩:∃ i:Nat,n=i:=⟨n.toNat,by omega⟩
    have hlen:=ent_len _ _ _ hent
    have hi:i<es.toList.length:=by simp only[Int.toNat_natCast] at hn1;omega
    obtain⟨κ,hent⟩:=hent
    have hfi:=findIdx_born q.cs 0 es.toList i hent hi
    have hR:=h.setM hl hfz hqt hρ (wr q.cs (2*i+1) [opv s v']) (es.modify i fun e=>{ e with val:=a.eval v }) hr ⟨κ,by
     rw[Array.toList_modify]
     exact ent_mod hfl (flat_any hfl hvv) (fun e=>{ e with val:=a.eval v }) (fun e=>⟨rfl,rfl,rfl⟩) q.cs 0 es.toList i hent hi⟩
    refine wp_of_skip (w':={ w with heap:=w.heap.setIfInBounds r (.map (es.modify i fun e=>{ e with val:=a.eval v }) (es.modify i fun e=>{ e with val:=a.eval v }).size) }) ?_ (hK I ρ _ _ ?_)
    ·have hfi2:es.findIdx? (fun e=>(e.born:Int)==(i:Int))=some i:=by
      have e0:es=es.toList.toArray:=by simp
      rw[e0,List.findIdx?_toArray]
      simpa using hfi
     simp[execOp,ho,hav,hyv,Instr.entryStore,hobj,asInt,asIntOf,hfi2,run_obj_set hw]
    ·rw[hd]
     simp only[Int.toNat_natCast]
     exact hR.putO hN (fun y hy=>by cases hy)
   ·cases he
  ·cases he
 ·cases he
theorem sim_mupd (hd:o.dst=ao.d) (hN:∀ n,ao.d=some n→n<N) (t:TypeId) (x y v:Operand) (x' y' v':AOpd) (z:AV) (ho:o.op=.mapUpdate t x y v) (hao:ao.op=.mupd x' y' v') (hx:mOpd x x'=true) (hy:mOpd y y'=true) (hv:mOpd v v'=true) (ht:tMap P t z=true):Sim P N o C ao:=by
 intro w0 I0 I ρ s a w e K Q h he hK
 obtain⟨kt,et,zv,hu,hk,hz,hzr,hzv⟩:=tMap_spec ht
 unfold eff at he
 rw[hao] at he
 simp only[] at he
 have hxv:=h.opd hx
 have hyv:=h.opd hy
 have hvv:=h.opd hv
 split at he
 ·rename_i b g n hp hq
  rw[hp] at hxv
  rw[hq] at hyv
  have hyv:=VR_int hyv
  split at he
  ·rename_i q hm
   split at he
   ·rename_i hc
    obtain⟨hfz,hnA,hfl⟩:=hc
    obtain⟨r,σ,es,hρ,hav,hl,hqt,hw,hent⟩:=h.mapped hm hxv
    have hr:r<w.heap.size:=(Array.getElem?_eq_some_iff.1 hw).1
    have hobj:(getObj r).run P w=.ok (.map es es.size) w:=run_obj hw
    have hlen:=ent_len _ _ _ hent
    obtain⟨κ,hent⟩:=hent
    have hent:=ent_kind hent hnA
    rcases find_ent n q.cs 0 es.toList hent with⟨h1,h2⟩|⟨i,x0,f,h1,h2,h3,h4,h5,h6,h7,h8⟩
    ·cases he
     unfold mputV at hK
     rw[h1] at hK
     have hR:=h.setM hl hfz hqt hρ (q.cs++[.int .i64 n,opv s v']) (es.push { key:=.int .i64 n,val:=a.eval v,born:=es.size }) hr ⟨none,push_ent (keyI n) hfl (flat_any hfl hvv) hent⟩
     refine wp_of_skip (w':={ w with heap:=w.heap.setIfInBounds r (.map (es.push { key:=.int .i64 n,val:=a.eval v,born:=es.size }) (es.push { key:=.int .i64 n,val:=a.eval v,born:=es.size }).size) }) ?_ (hK I ρ _ _ ?_)
     ·simp[execOp,ho,hav,hyv,Instr.mapUpdate,run_underlying hu,hobj,run_checkKey hk,run_findKey hk n es.toList h2,run_obj_set hw]
     ·rw[hd]
      exact hR.putO hN (fun y hy=>by cases hy)
    ·cases he
     unfold mputV at hK
     rw[h1] at hK
     have hf:es[i]? = some f:=by simpa using h2
     have hi:i<es.toList.length:=by
      have:=hlen
      omega
     have hR:=h.setM hl hfz hqt hρ (wr q.cs (2*i+1) [opv s v']) (es.modify i fun e=>{ e with key:=.int .i64 n,val:=a.eval v }) hr ⟨none,by
      rw[Array.toList_modify]
      have e1:es.toList.modify i (fun e=>{ e with key:=.int .i64 n,val:=a.eval v })=es.toList.modify i (fun e=>{ e with val:=a.eval v }):=by
       apply List.ext_getElem?
       intro m
       rw[List.getElem?_modify,List.getElem?_modify]
       by_cases hm:i=m
       ·subst hm
        rw[h2]
        simp[h3]
       ·simp[hm]
      rw[e1]
      exact ent_mod hfl (flat_any hfl hvv) (fun e=>{ e with val:=a.eval v }) (fun e=>⟨rfl,rfl,rfl⟩) q.cs 0 es.toList i hent hi⟩
     refine wp_of_skip (w':={ w with heap:=w.heap.setIfInBounds r (.map (es.modify i fun e=>{ e with key:=.int .i64 n,val:=a.eval v }) (es.modify i fun e=>{ e with key:=.int .i64 n,val:=a.eval v }).size) }) ?_ (hK I ρ _ _ ?_)
     ·simp[execOp,ho,hav,hyv,Instr.mapUpdate,run_underlying hu,hobj,run_checkKey hk,run_findKey hk n es.toList h8,hf,h3,run_stays,run_obj_set hw]
     ·rw[hd]
      simp only[Nat.zero_add]
      exact hR.putO hN (fun y hy=>by cases hy)
   ·cases he
  ·cases he
 ·cases he
theorem sim_mlen (hd:o.dst=ao.d) (hN:∀ n,ao.d=some n→n<N) (t:TypeId) (x:Operand) (x':AOpd) (ho:o.op=.call { callee:=.builtin .len,args:=#[x],argTypes:=#[t] }) (hao:ao.op=.mlen x') (hx:mOpd x x'=true) (kt et:TypeId) (ht:P.underlying t=some (.map kt et)):Sim P N o C ao:=by
 intro w0 I0 I ρ s a w e K Q h he hK
 unfold eff at he
 rw[hao] at he
 simp only[] at he
 have hxv:=h.opd hx
 split at he
 ·rename_i b g hp
  rw[hp] at hxv
  split at he
  ·rename_i q hm
   obtain⟨r,σ,es,hρ,hav,hl,hqt,hw,hent⟩:=h.mapped hm hxv
   have hobj:(getObj r).run P w=.ok (.map es es.size) w:=run_obj hw
   have e1:q.cs.length/2=es.size:=by have:=ent_len _ _ _ hent;simp at this;omega
   have:=val_ok he;subst this
   refine close_val h hd hN hK (v:=.int .i64 es.size) ?_ (by rw[e1];simp[VR])
   simp[execOp,ho,resolve,invoke,builtin,Builtin.len_,run_underlying ht,hav,hobj,goInt]
  ·cases he
 ·cases he
theorem sim_mrng (hd:o.dst=ao.d) (hN:∀ n,ao.d=some n→n<N) (t:TypeId) (x:Operand) (x':AOpd) (ho:o.op=.range t x) (hao:ao.op=.mrng x') (hx:mOpd x x'=true) (kt et:TypeId) (ht:P.underlying t=some (.map kt et)):Sim P N o C ao:=by
 intro w0 I0 I ρ s a w e K Q h he hK
 unfold eff at he
 rw[hao] at he
 simp only[] at he
 have hxv:=h.opd hx
 split at he
 ·rename_i d b g hdd hp
  rw[hp] at hxv
  split at he
  ·rename_i q hm
   split at he
   ·rename_i hbd
    obtain⟨r,σ,es,hρ,hav,hl,hqt,hw,hent⟩:=h.mapped hm hxv
    have e1:q.cs.length/2=es.size:=by have:=ent_len _ _ _ hent;simp at this;omega
    rw[e1] at he
    cases he
    have hr:(execOp a.eval o).run P w=.ok (.value (.pointer (some ⟨w.heap.size,0,none⟩))) { w with heap:=w.heap.push (.mapIter (some r) es.size #[] es.size) }:=by
     have:=run_range_map (P:=P) w t kt et r es es.size ht hw
     simp only[execOp,ho]
     rw[hav]
     simp only[Sem.run_bind,this,Result.andThen]
     rfl
    have h1:=h.allocI d (w':={ w with heap:=w.heap.push (.mapIter (some r) es.size #[] es.size) }) (b:=b) (g:=g) (m:=r) (since:=es.size) (below_push w _) (heap_push_new w _) (by rw[hav] at hxv;exact hxv)
    refine wp_of_run hr (hK I (fun b=>if b=d then some (w.heap.size,0) else ρ b) _ _ ?_)
    rw[hd]
    refine h1.putO hN (fun y hy=>?_)
    cases hy
    simp only[VR,modeOf]
    refine⟨⟨_,rfl⟩,by simp[bump],fun L hL=>?_⟩
    simp[aliveA,bump,hlook_hput] at hL
    subst hL
    exact⟨w.heap.size,0,rfl,rfl⟩
   ·cases he
  ·cases he
 ·cases he
theorem ent_at {κ:Option Nat}:∀(cs:List AV) (j:Nat) (es:List MapEntry) (i:Nat) (k v:AV),mEntK κ cs j es→cs[2*i]? = some k→cs[2*i+1]? = some v→∃(e:MapEntry),es[i]? = some e∧KeyR κ k e.key∧(∀ I w M,VR I w M v e.val)∧e.born=j+i
 | [],_,_,i,k,v,_,h1,_=>by simp at h1
 | [c],j,es,i,k,v,h,_,_=>by cases es<;>simp[mEntK] at h
 | c::x::cs,j,[],_,_,_,h,_,_=>by simp[mEntK] at h
 | c::x::cs,j,e::es,i,k,v,h,h1,h2=>by
  obtain⟨g1,g2,g3,g4,g5⟩:=h
  cases i with
  | zero =>
   simp at h1 h2
   subst h1 h2
   exact⟨e,rfl,g1,g3,by simpa using g4⟩
  | succ i =>
   have e1:(c::x::cs)[2*(i+1)]? = cs[2*i]? := by rw[show 2*(i+1)=2*i+1+1 by omega];simp
   have e2:(c::x::cs)[2*(i+1)+1]? = cs[2*i+1]? := by rw[show 2*(i+1)+1=2*i+1+1+1 by omega];simp
   rw[e1] at h1
   rw[e2] at h2
   obtain⟨f,k1,k2,k3,k4⟩:=ent_at cs (j+1) es i k v g5 h1 h2
   exact⟨f,by simpa using k1,k2,k3,by omega⟩
theorem ent_born {κ:Option Nat}:∀(cs:List AV) (j:Nat) (es:List MapEntry),mEntK κ cs j es→es.map (·.born)=List.range' j es.length
 | [],j,[],_=>rfl
 | [],_,_::_,h=>by simp[mEntK] at h
 | [_],_,_,h=>by simp[mEntK] at h
 | c::x::cs,j,[],h=>by simp[mEntK] at h
 | c::x::cs,j,e::es,h=>by
  rw[List.map_cons,List.length_cons,List.range'_succ,ent_born cs (j+1) es h.2.2.2.2,h.2.2.2.1]
theorem VRs_ints:∀(a:List Int),VRs I w M (a.map (.int .i64)) (a.map (Value.int .i64))
 | []=>by simp[VRs]
 | n::a=>by simp only[List.map_cons,VRs];exact⟨by simp[VR],VRs_ints a⟩
theorem KeyR.VR {κ:Option Nat} {k:AV} {v:Value} (h:KeyR κ k v):VR I w M k v:=by
 cases κ with
 | none =>
  obtain⟨n,rfl,rfl⟩:=h
  simp[Am.VR]
 | some m =>
  obtain⟨a,_,rfl,rfl⟩:=h
  simp only[Am.VR]
  exact⟨_,rfl,VRs_ints a⟩
theorem push_of_back {l:List Nat} {i:Nat} {A:Array Nat} (hA:A.toList=l) (h:l.getLast? = some i):∃ B:Array Nat,A=B.push i:=by
 obtain⟨l',rfl⟩:∃ l',l=l'++[i]:=by
  have:=List.getLast?_eq_some_iff.1 h
  exact this
 refine⟨l'.toArray, ?_⟩
 apply Array.ext'
 rw[hA]
 simp
theorem sim_entry (hd:o.dst=ao.d) (hN:∀ n,ao.d=some n→n<N) (x:Operand) (x':AOpd) (ho:o.op=.entry x) (hao:ao.op=.entry x') (hx:mOpd x x'=true):Sim P N o C ao:=by
 intro w0 I0 I ρ s a w e K Q h he hK
 unfold eff at he
 rw[hao] at he
 simp only[] at he
 have hxv:=h.opd hx
 split at he
 ·rename_i b g hp
  rw[hp] at hxv
  split at he
  ·rename_i k hk
   split at he
   ·rename_i mb mg n0 c0 seen hit
    split at he
    ·rename_i q hm
     split at he
     ·rename_i v hv
      obtain⟨r,σ,m,since,sn,c,hρ,hav,hl,hkt,hw,b',g',hcs,hmv,hsc⟩:=h.come hk hxv
      rw[hcs] at hit
      simp only[itOf,Option.some.injEq,Prod.mk.injEq] at hit
      obtain⟨rfl,rfl,rfl,rfl,rfl⟩:=hit
      obtain⟨r2,σ2,es,hρ2,hav2,hl2,hqt,hw2,hent⟩:=h.mapped hm hmv
      cases hav2
      unfold entV at hv
      split at hv
      ·rename_i i hlast
       split at hv
       ·rename_i hc
        split at hv
        ·rename_i kv vv hk1 hk2
         cases hv
         obtain⟨i,rfl⟩:∃ j:Nat,i=j:=⟨i.toNat,by omega⟩
         simp only[Int.toNat_natCast] at hk1 hk2
         have hlast2:sn.toList.getLast? = some i:=by
          rw[List.getLast?_map] at hlast
          cases hh:sn.toList.getLast? with
          | none=>rw[hh] at hlast;simp at hlast
          | some y=>rw[hh] at hlast;simp at hlast;exact congrArg some (by omega)
         obtain⟨B,rfl⟩:=push_of_back rfl hlast2
         have hlen:=ent_len _ _ _ hent
         obtain⟨κ,hent⟩:=hent
         obtain⟨f,f1,f3,f4,f5⟩:=ent_at q.cs 0 es.toList i kv vv hent hk1 hk2
         have e1:q.cs.length/2=es.size:=by have:=hlen;simp at this;omega
         have hcc:c=es.size:=by have:=hc.1;rw[e1] at this;omega
         subst hcc
         have hfm:f∈es.toList:=by
          obtain⟨hlt,rfl⟩:=List.getElem?_eq_some_iff.1 f1
          exact List.getElem_mem hlt
         have hnd:(es.toList.map (·.born)).Nodup:=by rw[ent_born _ _ _ hent];exact List.nodup_range'
         have hb:f.born=i:=by omega
         rw[← hb] at hw
         have hrun:=run_entry_at (P:=P) w r m since B es es.size f hw hw2 hfm hnd
         have:=val_ok he;subst this
         refine close_val h hd hN hK (v:=.tuple #[f.key,f.val]) ?_ ?_
         ·simp only[execOp,ho]
          rw[hav]
          simp only[Sem.run_bind,hrun,Result.andThen]
          rfl
         ·simp only[VR,VRs]
          exact⟨[f.key,f.val],rfl,f3.VR,f4 _ _ _,trivial⟩
        ·cases hv
       ·cases hv
      ·cases hv
     ·cases he
    ·cases he
   ·cases he
  ·cases he
 ·cases he
theorem ints_map:∀(ks:List AV) (a:List Int),ints ks=some a→ks=a.map (.int .i64)
 | [],a,h=>by simp[ints] at h;subst h;rfl
 | k::ks,a,h=>by
  unfold ints at h
  split at h
  ·cases h;simp_all
  ·rename_i n l heq
   cases heq
   split at h
   ·rename_i r hr
    cases h
    rw[ints_map _ r hr]
    rfl
   ·cases h
  ·cases h
theorem ints_of:∀(a:List Int),ints (a.map (.int .i64))=some a
 | []=>rfl
 | n::a=>by simp[ints,ints_of a]
theorem VRs_ints_inv:∀(a:List Int) (vs:List Value),VRs I w M (a.map (.int .i64)) vs→vs=a.map (Value.int .i64)
 | [],[],_=>rfl
 | [],_::_,h=>by simp[VRs] at h
 | _::_,[],h=>by simp[VRs] at h
 | n::a,v::vs,h=>by
  simp only[List.map_cons,VRs] at h
  rw[VRs_ints_inv a vs h.2,VR_int h.1]
  rfl
theorem eqs_ints:∀(a b:List Int),a.length=b.length→eqs (List.replicate a.length false) (a.map (.int .i64)) (b.map (.int .i64))=some (decide (a=b))
 | [],[],_=>by simp[eqs]
 | [],_::_,h=>by simp at h
 | _::_,[],h=>by simp at h
 | n::a,m::b,h=>by
  have ih:=eqs_ints a b (by simpa using h)
  simp only[List.length_cons,List.replicate_succ,List.map_cons,eqs,if_true,ih,List.cons.injEq]
  simp[Bool.decide_and]
def CkOk (P:Program) (d:Nat) (t:TypeId) (ks:List Bool):Prop :=
 ∀(w:World) (em:Bool) (D:Nat) (us:List Value),us.length=ks.length→(∀ v∈us,∃ n,v=.int .i64 n)→(Instr.checkKey em (D+d) t (packed P t us)).run P w=.ok () w
theorem ckFields_ok {d:Nat} (hE:∀ t ks,flatT P d t=some ks→CkOk P d t ks) (em:Bool) (D:Nat) (us:List Value) (hi:∀ v∈us,∃ n,v=.int .i64 n) (w:World):∀(fs:List Field) (n:Nat) (ks:List Bool),flatF P (flatT P d) n fs=some ks→us.length=n+ks.length →
  (forIn fs PUnit.unit fun f _=>do
   if f.name ≠ "_" then do
    Instr.checkKey em (D+d) f.type (← part f.type us.toArray f.offset)
    pure (ForInStep.yield PUnit.unit)
   else pure (ForInStep.yield PUnit.unit):Sem PUnit).run P w=.ok () w
 | [],n,ks,_,_=>by simp
 | f::fs,n,ks,hf,hl=>by
  simp only[flatF] at hf
  split at hf
  ·cases hf
  ·rename_i hname
   split at hf
   ·rename_i q hq
    split at hf
    ·rename_i hc
     obtain⟨hoff,hsz⟩:=hc
     split at hf
     ·rename_i rest hrest
      cases hf
      have ih:=ckFields_ok hE em D us hi w fs (n+q.length) rest hrest (by simp at hl;omega)
      obtain⟨hud,hone⟩:=flat_size hq
      have p1:=run_part_packed (P:=P) hsz hud hone (us:=us) (off:=n) (by simp at hl;omega) w
      have h3:=hE f.type q hq w em D ((us.drop n).take q.length) (by simp at hl ⊢;omega) (fun v hv=>hi v (List.mem_of_mem_drop (List.mem_of_mem_take hv)))
      simp only[List.forIn_cons,Sem.run_bind,hname,ne_eq,not_false_eq_true,if_true,hoff,p1,Result.andThen_ok,h3,Sem.run_pure]
      exact ih
     ·cases hf
    ·cases hf
   ·cases hf
theorem ckItems_ok {d:Nat} {ks:List Bool} {e:TypeId} (hE:CkOk P d e ks) (hfl:flatT P d e=some ks) {i0:TypeInfo} (hinf:P.info? e=some i0) (hsz:i0.size=ks.length) (em:Bool) (D:Nat) (us:List Value) (hi:∀ v∈us,∃ n,v=.int .i64 n) (w:World):∀(k i:Nat),us.length=(i+k)*ks.length →
  (forIn (List.range' i k) PUnit.unit fun i _=>do
   Instr.checkKey em (D+d) e (← part e us.toArray (i*(← sizeOf e)))
   pure (ForInStep.yield PUnit.unit):Sem PUnit).run P w=.ok () w
 | 0,i,hl=>by simp
 | k+1,i,hl=>by
  have ih:=ckItems_ok hE hfl hinf hsz em D us hi w k (i+1) (by rw[hl];congr 1;omega)
  obtain⟨hud,hone⟩:=flat_size hfl
  have e1:(i+(k+1))*ks.length=i*ks.length+ks.length+k*ks.length:=by
   rw[Nat.add_mul,Nat.succ_mul];omega
  have p1:=run_part_packed (P:=P) (by rw[hinf];simp[hsz]) hud hone (us:=us) (off:=i*ks.length) (n:=ks.length) (by omega) w
  have h3:=hE w em D ((us.drop (i*ks.length)).take ks.length) (by simp;omega) (fun v hv=>hi v (List.mem_of_mem_drop (List.mem_of_mem_take hv)))
  rw[List.range'_succ]
  simp only[List.forIn_cons,Sem.run_bind,run_sizeOf' hinf,Result.andThen_ok,hsz,p1,h3,Sem.run_pure]
  exact ih
theorem flat_CkOk:∀(d:Nat) (t:TypeId) (ks:List Bool),flatT P d t=some ks→CkOk P d t ks
 | 0,t,n,h=>by simp[flatT] at h
 | d+1,t,ks,h=>by
  intro w em D us hl hi
  unfold flatT at h
  rw[← Nat.add_assoc,Instr.checkKey]
  split at h
  ·rename_i hu
   simp only[Sem.run_bind,run_underlying hu,Result.andThen_ok]
   simp
  ·rename_i k hu
   simp only[Sem.run_bind,run_underlying hu,Result.andThen_ok]
   simp
  ·rename_i fs hu
   split at h
   ·cases h
   ·rename_i hst
    simp only[packed,hu,Sem.run_bind,run_underlying hu,Result.andThen_ok]
    rw[← Array.forIn_toList]
    rw[ckFields_ok (fun t n h=>flat_CkOk d t n h) em D us hi w fs.toList 0 ks h (by omega)]
    simp
  ·rename_i k e hu
   split at h
   ·rename_i m hm
    split at h
    ·rename_i hsz
     simp at h;subst h
     cases hinf:P.info? e with
     | none=>simp[hinf] at hsz
     | some i =>
      simp only[packed,hu,Sem.run_bind,run_underlying hu,Result.andThen_ok]
      simp only[Std.Legacy.Range.forIn_eq_forIn_range',Std.Legacy.Range.size,Nat.sub_zero,Nat.add_one_sub_one,Nat.div_one]
      rw[ckItems_ok (flat_CkOk d e m hm) hm hinf (by simpa [hinf] using hsz.1) em D us hi w k 0 (by rw[hl];simp)]
      simp
    ·cases h
   ·cases h
  ·cases h
def tMapA (P:Program) (t:TypeId) (n:Nat) (z:AV):Bool :=
 match P.underlying t with
 | some (.map k e)=>(match P.underlying k with|some (.struct _)|some (.array _ _)=>true|_=>false)&&(decide (flatT P 20 k=some (List.replicate n false))&&(z.flat&&(match P.info? e with
  | some i=>match i.zero with
   | some v=>cval z v
   | none=>false
  | none=>false)))
 | _=>false
theorem tMapA_spec {t:TypeId} {n:Nat} {z:AV} (h:tMapA P t n z=true):∃ k e v,P.underlying t=some (.map k e)∧(∃ d,P.underlying k=some d∧(∀ xs x,Instr.sameNow d (.agg xs) x=none))∧(∀ us:List Value,packed P k us=.agg us.toArray)∧flatT P 20 k=some (List.replicate n false)∧z.flat=true∧(∀ w,(zeroValue e).run P w=.ok v w)∧cval z v=true:=by
 unfold tMapA at h
 split at h
 ·rename_i k e hu
  simp only[Bool.and_eq_true,decide_eq_true_eq] at h
  obtain⟨h1,h2,h3,h4⟩:=h
  split at h4
  ·rename_i i hi
   split at h4
   ·rename_i v hv
    refine⟨k,e,v,hu, ?_, ?_,h2,h3,fun w=>by simp[zeroValue,typeInfo,hi,hv],h4⟩
    ·split at h1
     ·rename_i fs hk
      exact⟨_,hk,fun xs x=>by simp[Instr.sameNow]⟩
     ·rename_i m el hk
      exact⟨_,hk,fun xs x=>by simp[Instr.sameNow]⟩
     ·cases h1
    ·intro us
     unfold packed
     split at h1<;>simp_all
   ·cases h4
  ·cases h4
 ·cases h
theorem find_entA {kt:TypeId} {m:Nat} (hf:flatT P 20 kt=some (List.replicate m false)) (hp:∀ us:List Value,packed P kt us=.agg us.toArray) (a:List Int) (ha:a.length=m) (w:World):∀(cs:List AV) (j:Nat) (es:List MapEntry),mEntK (some m) cs j es →
  (mfindA a cs j=none∧(Instr.findAsking kt (.agg (a.map (Value.int .i64)).toArray) es j).run P w=.ok none w) ∨
  ∃ i x e,mfindA a cs j=some (j+i,x)∧es[i]? = some e∧e.key=.agg (a.map (Value.int .i64)).toArray∧e.born=j+i∧x.flat=true∧(∀ I w M,VR I w M x e.val)∧2*i+1<cs.length∧(Instr.findAsking kt (.agg (a.map (Value.int .i64)).toArray) es j).run P w=.ok (some (j+i,e.val)) w
 | [],j,[],_=>.inl ⟨by simp[mfindA],by simp[Instr.findAsking]⟩
 | [],_,_::_,h=>by simp[mEntK] at h
 | [_],_,_,h=>by simp[mEntK] at h
 | c::x::cs,j,[],h=>by simp[mEntK] at h
 | c::x::cs,j,e::es,h=>by
  obtain⟨⟨b,hb,rfl,h1⟩,h2,h3,h4,h5⟩:=h
  have hq:=flat_EqOk 20 kt _ hf w (fun _=>True) none 9980 _ _ _ _ _ (by
   have:=eqs_ints a b (by omega)
   rw[ha] at this
   exact this) (VRs_ints a) (VRs_ints b)
  rw[hp,hp] at hq
  have hq2:(Op.equal kt (.agg (a.map (Value.int .i64)).toArray) e.key).run P w=.ok (decide (a=b)) w:=by
   rw[h1]
   exact hq
  simp only[Instr.findAsking,Sem.run_bind,hq2,Result.andThen_ok,mfindA,ints_of]
  by_cases hab:a=b
  ·subst hab
   refine .inr ⟨0,x,e,by simp,rfl,h1,by omega,h2,h3,by simp, ?_⟩
   simp
  ·have hba:¬ (some b=some a):=fun e=>hab (by cases e;rfl)
   rw[if_neg hba]
   simp only[hab,decide_false,Bool.false_eq_true,if_false]
   rcases find_entA hf hp a ha w cs (j+1) es h5 with⟨k1,k2⟩|⟨i,y,f,k1,k2,k3,k4,k5,k6,k7,k8⟩
   ·exact .inl ⟨k1,k2⟩
   ·refine .inr ⟨i+1,y,f,by rw[k1];congr 2;omega,by simpa using k2,k3,by omega,k5,k6,by simp;omega,by rw[k8];congr 3;omega⟩
theorem run_findKeyA {kt:TypeId} {d:TypeDesc} (hk:P.underlying kt=some d) {xs:Array Value} (hd:∀ x,Instr.sameNow d (.agg xs) x=none) (es:List MapEntry) {r:Option (Nat×Value)} {w:World} (h:(Instr.findAsking kt (.agg xs) es 0).run P w=.ok r w):(Instr.findKey kt (.agg xs) es).run P w=.ok r w:=by
 cases es with
 | nil =>
  simp[Instr.findAsking] at h
  subst h
  simp[Instr.findKey,run_underlying hk,Instr.findNow]
 | cons e es =>
  simp[Instr.findKey,run_underlying hk,Instr.findNow,hd,h]
theorem sameBits_ints:∀(a:List Int) (m:Nat),((a.map (Value.int .i64)).zip (a.map (Value.int .i64))).all (fun p=>Instr.sameBits (m+1) p.1 p.2)=true
 | [],_=>rfl
 | n::a,m=>by
  simp only[List.map_cons,List.zip_cons_cons,List.all_cons,Bool.and_eq_true]
  exact⟨by simp[Instr.sameBits],sameBits_ints a m⟩
theorem run_staysA (a:List Int) (w:World):(Instr.keyThatStays (.agg (a.map (Value.int .i64)).toArray) (.agg (a.map (Value.int .i64)).toArray)).run P w=.ok (.agg (a.map (Value.int .i64)).toArray) w:=by
 have h:Instr.sameBits 10000 (.agg (a.map (Value.int .i64)).toArray) (.agg (a.map (Value.int .i64)).toArray)=true:=by
  show Instr.sameBits (9999+1) _ _=true
  simp only[Instr.sameBits,beq_self_eq_true,Bool.true_and]
  exact sameBits_ints a 9998
 unfold Instr.keyThatStays
 rw[if_pos h]
 simp
theorem sim_aget (hd:o.dst=ao.d) (hN:∀ n,ao.d=some n→n<N) (t:TypeId) (x y:Operand) (x' y':AOpd) (m:Nat) (z:AV) (ho:o.op=.lookup t x y false) (hao:ao.op=.aget x' y' m z) (hx:mOpd x x'=true) (hy:mOpd y y'=true) (ht:tMapA P t m z=true):Sim P N o C ao:=by
 intro w0 I0 I ρ s a w e K Q h he hK
 obtain⟨kt,et,zv,hu,⟨kd,hk,hkd⟩,hpk,hfl,hz,hzr,hzv⟩:=tMapA_spec ht
 unfold eff at he
 rw[hao] at he
 simp only[] at he
 have hxv:=h.opd hx
 have hyv:=h.opd hy
 split at he
 ·rename_i b g ks hp hq
  rw[hp] at hxv
  rw[hq] at hyv
  split at he
  ·rename_i q ns hm hns
   have hks:=ints_map _ _ hns
   subst hks
   obtain⟨us,hyv,hus⟩:=VR_agg hyv
   have hus:=VRs_ints_inv _ _ hus
   subst hus
   split at he
   ·rename_i hfz
    obtain⟨haok,hnl⟩:=hfz
    obtain⟨r,σ,es,hρ,hav,hl,hqt,hw,hent⟩:=h.mapped hm hxv
    have hobj:(getObj r).run P w=.ok (.map es es.size) w:=run_obj hw
    obtain⟨κ,hent⟩:=hent
    have hent:=ent_kindA hent haok
    have hck:∀ em,(Instr.checkKey em 10000 kt (.agg (ns.map (Value.int .i64)).toArray)).run P w=.ok () w:=by
     intro em
     have:=flat_CkOk 20 kt _ hfl w em 9980 (ns.map (Value.int .i64)) (by simp[hnl]) (fun v hv=>by
      obtain⟨n,_,rfl⟩:=List.mem_map.1 hv
      exact⟨n,rfl⟩)
     rw[hpk] at this
     exact this
    rcases find_entA hfl hpk ns hnl w q.cs 0 es.toList hent with⟨h1,h2⟩|⟨i,x0,f,h1,h2,h3,h4,h5,h6,h7,h8⟩
    ·unfold mgetA at he
     rw[h1] at he
     have he:=val_ok he
     subst he
     refine close_val h hd hN hK (v:=zv) ?_ (cval_VR _ _ hzv)
     simp[-List.map_toArray,execOp,ho,hav,hyv,Instr.lookup,run_underlying hu,hobj,hck,run_findKeyA hk (hkd _) es.toList h2,hzr]
    ·unfold mgetA at he
     rw[h1] at he
     have he:=val_ok he
     subst he
     refine close_val h hd hN hK (v:=f.val) ?_ (h6 _ _ _)
     simp[-List.map_toArray,execOp,ho,hav,hyv,Instr.lookup,run_underlying hu,hobj,hck,run_findKeyA hk (hkd _) es.toList h8]
   ·cases he
  ·cases he
 ·cases he
theorem sim_aent (hd:o.dst=ao.d) (hN:∀ n,ao.d=some n→n<N) (t:TypeId) (x y:Operand) (x' y':AOpd) (m:Nat) (z:AV) (ho:o.op=.mapEntry t x y) (hao:ao.op=.aent x' y' m z) (hx:mOpd x x'=true) (hy:mOpd y y'=true) (ht:tMapA P t m z=true):Sim P N o C ao:=by
 intro w0 I0 I ρ s a w e K Q h he hK
 obtain⟨kt,et,zv,hu,⟨kd,hk,hkd⟩,hpk,hfl,hz,hzr,hzv⟩:=tMapA_spec ht
 unfold eff at he
 rw[hao] at he
 simp only[] at he
 have hxv:=h.opd hx
 have hyv:=h.opd hy
 split at he
 ·rename_i b g ks hp hq
  rw[hp] at hxv
  rw[hq] at hyv
  split at he
  ·rename_i q ns hm hns
   have hks:=ints_map _ _ hns
   subst hks
   obtain⟨us,hyv,hus⟩:=VR_agg hyv
   have hus:=VRs_ints_inv _ _ hus
   subst hus
   split at he
   ·rename_i hfz
    obtain⟨hfz,haok,hnl,_⟩:=hfz
    obtain⟨r,σ,es,hρ,hav,hl,hqt,hw,hent⟩:=h.mapped hm hxv
    have hr:r<w.heap.size:=(Array.getElem?_eq_some_iff.1 hw).1
    have hobj:(getObj r).run P w=.ok (.map es es.size) w:=run_obj hw
    have hlen:=ent_len _ _ _ hent
    obtain⟨κ,hent⟩:=hent
    have hent:=ent_kindA hent haok
    have hck:∀ em,(Instr.checkKey em 10000 kt (.agg (ns.map (Value.int .i64)).toArray)).run P w=.ok () w:=by
     intro em
     have:=flat_CkOk 20 kt _ hfl w em 9980 (ns.map (Value.int .i64)) (by simp[hnl]) (fun v hv=>by
      obtain⟨n,_,rfl⟩:=List.mem_map.1 hv
      exact⟨n,rfl⟩)
     rw[hpk] at this
     exact this
    rcases find_entA hfl hpk ns hnl w q.cs 0 es.toList hent with⟨h1,h2⟩|⟨i,x0,f,h1,h2,h3,h4,h5,h6,h7,h8⟩
    ·rw[h1] at he
     cases he
     have hzu:∀ I w M,VR I w M z zv:=fun _ _ _=>cval_VR _ _ hzv
     have hR:=h.setM hl hfz hqt hρ (q.cs++[.agg (ns.map (.int .i64)),z]) (es.push { key:=.agg (ns.map (Value.int .i64)).toArray,val:=zv,born:=es.size }) hr ⟨some m,push_ent (show KeyR (some m) (.agg (ns.map (.int .i64))) (.agg (ns.map (Value.int .i64)).toArray) from ⟨ns,hnl,rfl,rfl⟩) hz hzu hent⟩
     refine wp_of_run (v:=.tuple #[zv,goInt es.size]) (w':={ w with heap:=w.heap.setIfInBounds r (.map (es.push { key:=.agg (ns.map (Value.int .i64)).toArray,val:=zv,born:=es.size }) (es.push { key:=.agg (ns.map (Value.int .i64)).toArray,val:=zv,born:=es.size }).size) }) ?_ (hK I ρ _ _ ?_)
     ·simp[-List.map_toArray,execOp,ho,hav,hyv,Instr.mapEntry,run_underlying hu,hobj,hck,run_findKeyA hk (hkd _) es.toList h2,hzr,run_obj_set hw]
     ·rw[hd]
      refine hR.putO hN (fun y hy=>?_)
      cases hy
      have e1:q.cs.length/2=es.size:=by have:=hlen;simp at this;omega
      simp only[VR,VRs]
      exact⟨[zv,goInt es.size],rfl,hzu _ _ _,by rw[e1];rfl,trivial⟩
    ·rw[h1] at he
     cases he
     have hf:es[i]? = some f:=by simpa using h2
     have hR:=h.setM hl hfz hqt hρ q.cs (es.modify i fun e=>{ e with key:=.agg (ns.map (Value.int .i64)).toArray }) hr ⟨some m,by
      rw[Array.toList_modify]
      exact ent_same _ q.cs 0 es.toList i hent (fun e he=>by rw[h2] at he;cases he;rw[← h3])⟩
     refine wp_of_run (v:=.tuple #[f.val,goInt i]) (w':={ w with heap:=w.heap.setIfInBounds r (.map (es.modify i fun e=>{ e with key:=.agg (ns.map (Value.int .i64)).toArray }) (es.modify i fun e=>{ e with key:=.agg (ns.map (Value.int .i64)).toArray }).size) }) ?_ (hK I ρ _ _ ?_)
     ·simp[-List.map_toArray,execOp,ho,hav,hyv,Instr.mapEntry,run_underlying hu,hobj,hck,run_findKeyA hk (hkd _) es.toList h8,hf,h3,h4,run_staysA,run_obj_set hw]
     ·rw[hd]
      refine hR.putO hN (fun y hy=>?_)
      cases hy
      simp only[VR,VRs]
      exact⟨[f.val,goInt i],rfl,h6 _ _ _,by simp[goInt,VR],trivial⟩
   ·cases he
  ·cases he
 ·cases he
end
end Go.Am
namespace Go.Am
set_option linter.unusedSimpArgs false
set_option linter.unusedVariables false
open Go.RowKit
section
variable {P:Program} {w0:Base} {I0:Nat→Prop} {N:Nat} {I:Nat→Prop} {ρ:Nat→Place} {s:St} {a:Act} {w:World} {M:Option Mode}
variable {o:Oper} {ao:AOper} {C:Cs}
theorem sim_frz (hd:o.dst=ao.d) (hN:∀ n,ao.d=some n→n<N) (x:Operand) (y:AOpd) (ho:o.op=.move x∨o.op=.assign x) (hao:ao.op=.frz y) (hm:mOpd x y=true):Sim P N o C ao:=by
 intro w0 I0 I ρ s a w e K Q h he hK
 unfold eff at he
 rw[hao] at he
 simp only[] at he
 split at he
 ·rename_i v fz hp
  cases he
  have hv:=pureV_sound h _ _ _ _ hp (h.opd hm)
  have hf:=h.freeze fz
  refine wp_of_run (v:=a.eval x) (w':=w) (by rcases ho with ho|ho<;>simp[execOp,ho]) (hK (frzI I ρ s fz) ρ _ w ?_)
  rw[hd]
  unfold app
  rw[appH_fz]
  exact hf.putO hN (fun y hy=>by cases hy;exact VR_none_up (fun _ h=>h) _ hv)
 ·cases he
theorem mapM1_sound {f:AV→Option AV} {I':Nat→Prop} {w':World} {M':Option Mode} (hf:∀ x v y,f x=some y→VR I w M x v→VR I' w' M' y v) :
  ∀(xs ys:List AV) (vs:List Value),mapM1 f xs=some ys→VRs I w M xs vs→VRs I' w' M' ys vs
 | [],ys,[],h,_=>by simp[mapM1] at h;subst h;simp[VRs]
 | [],_,_::_,_,h=>by simp[VRs] at h
 | _::_,_,[],_,h=>by simp[VRs] at h
 | x::xs,ys,v::vs,h,hv=>by
  simp only[VRs] at hv
  simp only[mapM1] at h
  split at h
  ·rename_i y ys' h1 h2
   cases h
   simp only[VRs]
   exact⟨hf x v y h1 hv.1,mapM1_sound hf xs ys' vs h2 hv.2⟩
  ·cases h
theorem mapM1_len {f:AV→Option AV}:∀ {xs ys:List AV},mapM1 f xs=some ys→ys.length=xs.length
 | [],ys,h=>by simp[mapM1] at h;subst h;rfl
 | x::xs,ys,h=>by
  simp only[mapM1] at h
  split at h
  ·rename_i y ys' h1 h2
   cases h
   simp[mapM1_len h2]
  ·cases h
theorem posOf_spec {b:Nat}:∀ {l:List Nat} {i j:Nat},posOf b l i=some j→i≤j∧l[j-i]? = some b
 | [],_,_,h=>by simp[posOf] at h
 | x::xs,i,j,h=>by
  simp only[posOf] at h
  split at h
  ·rename_i hx
   cases h
   subst hx
   simp
  ·obtain⟨h1,h2⟩:=posOf_spec h
   refine⟨by omega, ?_⟩
   have:j-i=(j-(i+1))+1:=by omega
   rw[this]
   simpa using h2
theorem encs_decs:∀ {xs:List AV} {h:Hp},decs xs=some h→xs=encs h
 | [],h,hd=>by simp[decs] at hd;subst hd;rfl
 | x::xs,h,hd=>by
  simp only[decs] at hd
  split at hd
  ·rename_i p h' h1 h2
   cases hd
   have:=encs_decs h2
   subst this
   have:x=encB p:=by
    unfold decB at h1
    split at h1
    ·cases h1;rfl
    ·cases h1
   rw[this]
   rfl
  ·cases hd
theorem gblks_spec {fp bs:List Nat}:∀ {l:List Nat} {i0:Nat} {hg:Hp},gblks s fp bs l i0=some hg →
  (∀ i k,hlook hg i=some k→i0≤i∧∃ b k0,l[i-i0]? = some b∧hlook s.h b=some k0∧k0.frz=false∧k0.esz≠mapTag∧mapM1 (nrm1 s fp bs) k0.cs=some k.cs∧k.frz=false∧k.esz=k0.esz) ∧
  (∀ j b k0,l[j]? = some b→hlook s.h b=some k0→∃ k,hlook hg (i0+j)=some k)
 | [],i0,hg,h=>by
  simp[gblks] at h
  subst h
  exact⟨fun i k hk=>by simp[hlook] at hk,fun j b k0 hj=>by simp at hj⟩
 | b::l,i0,hg,h=>by
  simp only[gblks] at h
  split at h
  ·split at h
   ·rename_i k0 hk0
    split at h
    ·rename_i hc
     split at h
     ·rename_i cs h' h1 h2
      cases h
      obtain⟨ih1,ih2⟩:=gblks_spec h2
      refine⟨fun i k hk=>?_,fun j b' kb hj hkb=>?_⟩
      ·simp only[hlook] at hk
       split at hk
       ·rename_i e
        subst e
        cases hk
        exact⟨Nat.le_refl _,b,k0,by simp,hk0,hc.1,hc.2,h1,rfl,rfl⟩
       ·obtain⟨h3,b',k0',h4,h5⟩:=ih1 i k hk
        refine⟨by omega,b',k0', ?_,h5⟩
        have:i-i0=(i-(i0+1))+1:=by omega
        rw[this]
        simpa using h4
      ·cases j with
       | zero=>exact⟨⟨cs,false,k0.esz⟩,by simp[hlook]⟩
       | succ j =>
        obtain⟨k,hk⟩:=ih2 j b' kb (by simpa using hj) hkb
        refine⟨k, ?_⟩
        simp only[hlook]
        rw[if_neg (by omega)]
        have:i0+(j+1)=i0+1+j:=by omega
        rw[this]
        exact hk
     ·cases h
    ·cases h
   ·rename_i hnone
    obtain⟨ih1,ih2⟩:=gblks_spec h
    refine⟨fun i k hk=>?_,fun j b' kb hj hkb=>?_⟩
    ·obtain⟨h3,b',k0',h4,h5⟩:=ih1 i k hk
     refine⟨by omega,b',k0', ?_,h5⟩
     have:i-i0=(i-(i0+1))+1:=by omega
     rw[this]
     simpa using h4
    ·cases j with
     | zero =>
      simp at hj
      subst hj
      rw[hnone] at hkb
      cases hkb
     | succ j =>
      obtain⟨k,hk⟩:=ih2 j b' kb (by simpa using hj) hkb
      refine⟨k, ?_⟩
      have:i0+(j+1)=i0+1+j:=by omega
      rw[this]
      exact hk
  ·cases h
theorem gblks_frz {fp bs:List Nat}:∀ {l:List Nat} {i0:Nat} {hg:Hp},gblks s fp bs l i0=some hg→(hg.all fun p => !p.2.frz)=true
 | [],i0,hg,h=>by simp[gblks] at h;subst h;rfl
 | b::l,i0,hg,h=>by
  simp only[gblks] at h
  split at h
  ·split at h
   ·split at h
    ·split at h
     ·rename_i h1 h2
      cases h
      simp only[List.all_cons,Bool.not_false,Bool.true_and]
      exact gblks_frz h2
     ·cases h
    ·cases h
   ·exact gblks_frz h
  ·cases h
theorem decs_encs:∀ {h:Hp},(h.all fun p => !p.2.frz)=true→decs (encs h)=some h
 | [],_=>rfl
 | (b,⟨cs,fz,e⟩)::h,hh=>by
  simp only[List.all_cons,Bool.and_eq_true,Bool.not_eq_true'] at hh
  obtain⟨rfl,h2⟩:=hh
  have ih:=decs_encs h2
  unfold encs at ih ⊢
  simp only[List.map_cons,decs,ih]
  rfl
theorem decs_all:∀ {xs:List AV} {h:Hp},decs xs=some h→(h.all fun p => !p.2.frz)=true
 | [],h,hd=>by simp[decs] at hd;subst hd;rfl
 | x::xs,h,hd=>by
  simp only[decs] at hd
  split at hd
  ·rename_i p h' h1 h2
   cases hd
   simp only[List.all_cons,Bool.and_eq_true]
   refine⟨?_,decs_all h2⟩
   unfold decB at h1
   split at h1
   ·cases h1;rfl
   ·cases h1
  ·cases hd
theorem encs_inj {h h':Hp} (h1:(h.all fun p => !p.2.frz)=true) (h2:(h'.all fun p => !p.2.frz)=true) (he:encs h=encs h'):h=h':=by
 have e1:=decs_encs h1
 have e2:=decs_encs h2
 rw[he,e2] at e1
 cases e1
 rfl
def gpl (ρ:Nat→Place) (bs:List Nat):Nat→Place:=fun i=>match bs[i]? with
 | some b=>ρ b
 | none=>none
theorem nrm1_sound (h:R w0 I0 N I ρ s a w) {fp bs:List Nat} {hg:Hp} (g1:∀ i k,hlook hg i=some k→∃ b k0,bs[i]? = some b∧hlook s.h b=some k0∧k.esz=k0.esz) (x:AV) (v:Value) (y:AV) (hy:nrm1 s fp bs x=some y) (hv:VR I w (modeOf s ρ) x v) :
  VR I w (modeOf (gst hg) (gpl ρ bs)) y v:=by
 have key:∀ b g i k,posOf b bs 0=some i→blkAt s fp b g=some k→∀ L,aliveA (gst hg) (gpl ρ bs) i 0=some L→aliveA s ρ b g=some L:=by
  intro b g i k hp hk L hL
  obtain⟨_,hp2⟩:=posOf_spec hp
  simp only[Nat.sub_zero] at hp2
  obtain⟨e1,e2,e3,_⟩:=h.blk hk
  rw[e3]
  simp only[aliveA,gst,if_true,Option.map_eq_some_iff] at hL
  obtain⟨k',hk',rfl⟩:=hL
  obtain⟨b',k0,h4,h5,h6⟩:=g1 i k' hk'
  rw[hp2] at h4
  cases h4
  rw[e2] at h5
  cases h5
  simp only[gpl,hp2,h6]
 cases x
 case ptr b g p =>
  simp only[nrm1] at hy
  split at hy
  ·rename_i i k hi hk
   cases hy
   simp only[VR,modeOf] at hv ⊢
   exact⟨hv.1,Nat.le_refl _,fun L hL=>hv.2.2 L (key b g i k hi hk L hL)⟩
  ·cases hy
 case own b g p n =>
  simp only[nrm1] at hy
  split at hy
  ·rename_i i k hi hk
   cases hy
   simp only[VR,modeOf] at hv ⊢
   exact⟨hv.1,Nat.le_refl _,fun L hL=>hv.2.2 L (key b g i k hi hk L hL)⟩
  ·cases hy
 case nils=>simp only[nrm1,Option.some.injEq] at hy;subst hy;simpa [VR] using hv
 all_goals first
  | (simp only[nrm1,AV.plain,if_true,Option.some.injEq] at hy;subst hy;exact plain_none _ rfl hv)
  | (simp[nrm1,AV.plain] at hy)
theorem nrm_sound (h:R w0 I0 N I ρ s a w) {fp bs:List Nat} {hg:Hp} (g1:∀ i k,hlook hg i=some k→∃ b k0,bs[i]? = some b∧hlook s.h b=some k0∧k.esz=k0.esz) (x:AV) (v:Value) (y:AV) (hy:nrm s fp bs x=some y) (hv:VR I w (modeOf s ρ) x v) :
  VR I w (modeOf (gst hg) (gpl ρ bs)) y v:=by
 cases x
 case agg xs =>
  simp only[nrm] at hy
  split at hy
  ·rename_i ys hm
   cases hy
   obtain⟨cs,rfl,hvs⟩:=VR_agg hv
   simp only[VR]
   exact⟨cs,rfl,mapM1_sound (nrm1_sound h g1) xs ys cs hm hvs⟩
  ·cases hy
 all_goals exact nrm1_sound h g1 _ v y (by simpa only[nrm] using hy) hv
theorem garg_sound (h:R w0 I0 N I ρ s a w) {fp bs:List Nat} {hg:Hp} (g1:∀ i k,hlook hg i=some k→∃ b k0,bs[i]? = some b∧hlook s.h b=some k0∧k.esz=k0.esz) (x:AV) (v:Value) (y:AV) (fz:List Nat) (hy:garg s fp bs x=some (y,fz)) (hv:VR I w (modeOf s ρ) x v) :
  VR (frzI I ρ s fz) w (modeOf (gst hg) (gpl ρ bs)) y v:=by
 unfold garg at hy
 split at hy
 ·rename_i z hz
  cases hy
  exact VR.mono (fun b hb=>.inl hb) (fun _ _ _=>rfl) _ _ (Mode.le_refl _) (nrm_sound h g1 x v _ hz hv)
 ·exact VR_none_up (fun _ h=>h) _ (pureV_sound h x v y fz hy hv)
theorem gargs_sound (h:R w0 I0 N I ρ s a w) {fp bs:List Nat} {hg:Hp} (g1:∀ i k,hlook hg i=some k→∃ b k0,bs[i]? = some b∧hlook s.h b=some k0∧k.esz=k0.esz):∀(xs ys:List AV) (fz:List Nat) (vs:List Value),mapO (garg s fp bs) xs=some (ys,fz)→VRs I w (modeOf s ρ) xs vs →
  VRs (frzI I ρ s fz) w (modeOf (gst hg) (gpl ρ bs)) ys vs
 | [],ys,fz,[],h,_=>by simp[mapO] at h;obtain⟨rfl,rfl⟩:=h;simp[VRs]
 | [],_,_,_::_,_,h=>by simp[VRs] at h
 | _::_,_,_,[],_,h=>by simp[VRs] at h
 | x::xs,ys,fz,v::vs,he,hv=>by
  simp only[VRs] at hv
  simp only[mapO] at he
  split at he
  ·rename_i y g ys' gs h3 h4
   cases he
   simp only[VRs]
   refine⟨VR.mono (fun b hb=>frzI_sub (fun c hc=>List.mem_append_left _ hc) b hb) (fun _ _ _=>rfl) _ _ (Mode.le_refl _) (garg_sound h g1 x v y g h3 hv.1), ?_⟩
   exact VRs.mono (fun b hb=>frzI_sub (fun c hc=>List.mem_append_right _ hc) b hb) (fun _ _ _=>rfl) _ _ (Mode.le_refl _) (gargs_sound h g1 xs ys' gs vs h4 hv.2)
  ·cases he
theorem gblks_near {fp bs:List Nat} {hg:Hp} (hb:gblks s fp bs bs 0=some hg):∀ i k,hlook hg i=some k→∃ b k0,bs[i]? = some b∧hlook s.h b=some k0∧k.esz=k0.esz:=by
 intro i k hk
 obtain⟨_,b,k0,h4,h5,_,_,_,_,h6⟩:=(gblks_spec hb).1 i k hk
 exact⟨b,k0,by simpa using h4,h5,h6⟩
structure Back (s:St) (ρ:Nat→Place) (bs fz:List Nat) (h':Hp) (ρ':Nat→Place) (gm:Nat→Option (Nat×Nat)) (H2:Hp) (G2:Nat→Nat) (ρ2:Nat→Place):Prop where
 A:∀ c b g,gm c=some (b,g)→g=G2 b∧∃ kc k,hlook h' c=some kc∧hlook H2 b=some k∧k.frz=false∧k.esz=kc.esz∧kc.esz≠mapTag∧ρ2 b=ρ' c∧mapM1 (up1 gm) kc.cs=some k.cs
 B:∀ b k,hlook H2 b=some k→(∃ c,gm c=some (b,G2 b))∨(hlook (frzAll fz s.h) b=some k∧b ∉ bs∧G2 b=s.g b∧ρ2 b=ρ b)
 C:∀ b,s.g b≤G2 b
 D:∀ c b,gm c=some (b,s.g b)→∃ k0 k,hlook s.h b=some k0∧hlook H2 b=some k∧k.esz=k0.esz
 E:∀ c c' b g g',gm c=some (b,g)→gm c'=some (b,g')→c=c'
 F:∀ b,G2 b=s.g b→ρ2 b=ρ b
 G:∀ c b g,gm c=some (b,g)→b∈bs∨g=s.g b+1
theorem up1_sound {I':Nat→Prop} {w':World} {bs fz:List Nat} {h':Hp} {ρ' ρ2:Nat→Place} {gm:Nat→Option (Nat×Nat)} {H2:Hp} {G2:Nat→Nat} {t2:Env} (hb:Back s ρ bs fz h' ρ' gm H2 G2 ρ2)
  (x:AV) (v:Value) (y:AV) (hy:up1 gm x=some y) (hv:VR I' w' (modeOf (gst h') ρ') x v):VR I' w' (modeOf ⟨t2,H2,G2⟩ ρ2) y v:=by
 have key:∀ i b g,gm i=some (b,g)→∀ L,aliveA ⟨t2,H2,G2⟩ ρ2 b g=some L→aliveA (gst h') ρ' i 0=some L:=by
  intro i b g hm L hL
  obtain⟨e1,kc,k,e2,e3,e4,e5,e6,e7,e8⟩:=hb.A i b g hm
  subst e1
  simp only[aliveA,if_true,e3,Option.map_some] at hL
  simp only[aliveA,gst,if_true,e2,Option.map_some]
  rw[← hL,e5,e7]
 cases x
 case ptr i g p =>
  simp only[up1] at hy
  split at hy
  ·rename_i hg0
   split at hy
   ·rename_i b g' hm
    cases hy
    subst hg0
    simp only[VR,modeOf] at hv ⊢
    exact⟨hv.1,Nat.le_of_eq (hb.A i b g' hm).1,fun L hL=>hv.2.2 L (key i b g' hm L hL)⟩
   ·cases hy
  ·cases hy
 case own i g p n =>
  simp only[up1] at hy
  split at hy
  ·rename_i hg0
   split at hy
   ·rename_i b g' hm
    cases hy
    subst hg0
    simp only[VR,modeOf] at hv ⊢
    exact⟨hv.1,Nat.le_of_eq (hb.A i b g' hm).1,fun L hL=>hv.2.2 L (key i b g' hm L hL)⟩
   ·cases hy
  ·cases hy
 case nils=>simp only[up1,Option.some.injEq] at hy;subst hy;simpa [VR] using hv
 all_goals first
  | (simp only[up1,AV.plain,if_true,Option.some.injEq] at hy;subst hy;exact plain_none _ rfl hv)
  | (simp[up1,AV.plain] at hy)
theorem up2_sound {I':Nat→Prop} {w':World} {bs fz:List Nat} {h':Hp} {ρ' ρ2:Nat→Place} {gm:Nat→Option (Nat×Nat)} {H2:Hp} {G2:Nat→Nat} {t2:Env} (hb:Back s ρ bs fz h' ρ' gm H2 G2 ρ2)
  (x:AV) (v:Value) (y:AV) (hy:up2 gm x=some y) (hv:VR I' w' (modeOf (gst h') ρ') x v):VR I' w' (modeOf ⟨t2,H2,G2⟩ ρ2) y v:=by
 cases x
 case agg xs =>
  simp only[up2] at hy
  split at hy
  ·rename_i ys hm
   cases hy
   obtain⟨cs,rfl,hvs⟩:=VR_agg hv
   simp only[VR]
   exact⟨cs,rfl,mapM1_sound (up1_sound hb) xs ys cs hm hvs⟩
  ·cases hy
 all_goals exact up1_sound hb _ v y (by simpa only[up2] using hy) hv
theorem up_sound {I':Nat→Prop} {w':World} {bs fz:List Nat} {h':Hp} {ρ' ρ2:Nat→Place} {gm:Nat→Option (Nat×Nat)} {H2:Hp} {G2:Nat→Nat} {t2:Env} (hb:Back s ρ bs fz h' ρ' gm H2 G2 ρ2)
  (x:AV) (v:Value) (y:AV) (hy:up gm x=some y) (hv:VR I' w' (modeOf (gst h') ρ') x v):VR I' w' (modeOf ⟨t2,H2,G2⟩ ρ2) y v:=by
 cases x
 case tup xs =>
  simp only[up] at hy
  split at hy
  ·rename_i ys hm
   cases hy
   simp only[VR] at hv ⊢
   obtain⟨cs,rfl,hvs⟩:=hv
   exact⟨cs,rfl,mapM1_sound (up2_sound hb) xs ys cs hm hvs⟩
  ·cases hy
 all_goals exact up2_sound hb _ v y (by simpa only[up] using hy) hv
theorem R.gcalled (h:R w0 I0 N I ρ s a w) {fp bs fz:List Nat} {hg h':Hp} (hb:gblks s fp bs bs 0=some hg) (hfz:∀ b∈fz,b ∉ bs) {I':Nat→Prop} {w':World} {ρ' ρ2:Nat→Place} {gm:Nat→Option (Nat×Nat)} {H2:Hp} {G2:Nat→Nat}
  (hbk:Back s ρ bs fz h' ρ' gm H2 G2 ρ2) (hup:(gbase w hg (gpl ρ bs)).upto w') (h1:∀ b,frzI I ρ s fz b→I' b) (h2:∀ b,I' b→frzI I ρ s fz b∨(gbase w hg (gpl ρ bs)).mine b) (h3:∀ b,I' b→b<w'.heap.size)
  (hgate:Gate (gbase w hg (gpl ρ bs)) I' w' h' ρ'):R w0 I0 N I' ρ2 ⟨s.t,H2,G2⟩ a w':=by
 obtain⟨g1,g2⟩:=gblks_spec hb
 have hf:=h.freeze fz
 -- what the callee may have changed
 have hmine:∀ r,(gbase w hg (gpl ρ bs)).mine r→w.heap.size≤r∨∃ b k0 σ,b∈bs∧hlook s.h b=some k0∧k0.frz=false∧ρ b=some (r,σ):=by
  rintro r (hr|⟨i,σ,⟨k,hk⟩,hp⟩)
  ·exact .inl hr
  ·obtain⟨_,b,k0,h4,h5,h6,_⟩:=g1 i k hk
   simp only[Nat.sub_zero] at h4
   have hp':gpl ρ bs i=some (r,σ):=hp
   simp only[gpl,h4] at hp'
   exact .inr ⟨b,k0,σ,List.mem_of_getElem? h4,h5,h6,hp'⟩
 have hmine0:∀ r,(gbase w hg (gpl ρ bs)).mine r→w0.mine r:=by
  intro r hr
  rcases hmine r hr with e|⟨b,k0,σ,_,hk,_,hp⟩
  ·exact .inl (Nat.le_trans h.below.size e)
  ·have:=h.hp b k0 hk
   rw[hp] at this
   exact this.first.1
 have hnot:∀ r,I r→¬ (gbase w hg (gpl ρ bs)).mine r:=by
  intro r hi hr
  rcases hmine r hr with e|⟨b,k0,σ,_,hk,hfr,hp⟩
  ·have:=h.imm r hi;omega
  ·have:=h.hp b k0 hk
   rw[hp] at this
   exact this.first.2.2 hfr hi
 have hcell:∀ b,I b→∀ off,w'.cell? ⟨b,off,none⟩=w.cell? ⟨b,off,none⟩:=fun b hi off=>cell_of_heap (hup.block b (hnot b hi)) off
 -- a block that was not given
 have hoth:∀ b k r σ,hlook (frzAll fz s.h) b=some k→b ∉ bs→ρ b=some (r,σ)→¬ (gbase w hg (gpl ρ bs)).mine r:=by
  intro b k r σ hk hn hp hr
  rcases hmine r hr with e|⟨b',k0,σ',hm,hk',_,hp'⟩
  ·have:=hf.hp b k hk
   rw[hp] at this
   have:=this.lt
   omega
  ·have hk0:∃ k1,hlook s.h b=some k1:=by
    rw[hlook_frzAll] at hk
    cases hq:hlook s.h b with
    | none=>rw[hq] at hk;cases hk
    | some k1=>exact⟨k1,rfl⟩
   obtain⟨k1,hk1⟩:=hk0
   exact hn (h.inj b b' k1 k0 r σ σ' hk1 hk' hp hp'▸hm)
 have hM:Mode.le (modeOf s ρ) (modeOf ⟨s.t,H2,G2⟩ ρ2):=by
  refine⟨fun b=>hbk.C b,fun b g L hg' hA=>?_⟩
  show aliveA s ρ b g=some L
  have hg'':g≤s.g b:=hg'
  have hA':aliveA ⟨s.t,H2,G2⟩ ρ2 b g=some L:=hA
  simp only[aliveA] at hA' ⊢
  split at hA'
  ·rename_i e
   have hC:=hbk.C b
   have e2:G2 b=s.g b:=by omega
   have e3:s.g b=g:=by omega
   rw[if_pos e3]
   rw[Option.map_eq_some_iff] at hA'
   obtain⟨k,hk,rfl⟩:=hA'
   rcases hbk.B b k hk with⟨c,hc⟩|⟨hk',_,_,_⟩
   ·rw[e2] at hc
    obtain⟨k0,k',hk0,hk',he⟩:=hbk.D c b hc
    rw[hk] at hk'
    cases hk'
    rw[hk0,hbk.F b e2]
    simp[he]
   ·rw[hlook_frzAll] at hk'
    rw[Option.map_eq_some_iff] at hk'
    obtain⟨k0,hk0,rfl⟩:=hk'
    rw[hk0,hbk.F b e2]
    simp only[Option.map_some,Option.some.injEq,Prod.mk.injEq,true_and]
    split<;>rfl
  ·cases hA'
 have hMf:Mode.le (modeOf ⟨s.t,frzAll fz s.h,s.g⟩ ρ) (modeOf ⟨s.t,H2,G2⟩ ρ2):=by
  refine⟨hM.1,fun b g L hg' hA=>?_⟩
  have:=hM.2 b g L hg' hA
  show aliveA ⟨s.t,frzAll fz s.h,s.g⟩ ρ b g=some L
  have this':aliveA s ρ b g=some L:=this
  simp only[aliveA,hlook_frzAll,Option.map_map] at this' ⊢
  split at this'
  ·rename_i e
   rw[if_pos e]
   rw[← this']
   congr 1
   funext k
   simp only[Function.comp]
   split<;>rfl
  ·cases this'
 have hI:∀ b,I b→I' b:=fun b hb=>h1 b (.inl hb)
 refine { defers:=h.defers,tab:=VR.mono hI hcell _ _ (M:=none) (M':=none) trivial h.tab,size:=h.size,below:=h.below.trans hup.os hup.tape hup.output hup.size (fun k hk=>hup.block k (fun e=>hk (hmine0 k e))),imm:=h3,old:=fun b hb=>hI b (h.old b hb),new:=fun b hb'=>?_,kept:=fun b hb' hg0=>?_,tm:=fun t=>VR.mono hI hcell _ _ hM (h.tm t),hp:=fun b k hk=>?_,inj:=?_ }
 ·rcases h2 b hb' with e|e
  ·exact hf.new b e
  ·exact .inr (hmine0 b e)
 ·have hg1:G2 b=0:=hg0
  have hC:=hbk.C b
  rw[hbk.F b (by omega)]
  exact h.kept b hb' (by omega)
 ·rcases hbk.B b k hk with⟨c,hc⟩|⟨hk',hn,_,hρ⟩
  ·obtain⟨_,kc,k',e2,e3,e4,e5,e6,e7,e8⟩:=hbk.A c b _ hc
   rw[hk] at e3
   cases e3
   obtain⟨e9,e10⟩:=hgate.ok c kc e2
   rw[e7]
   unfold BlkOk at e10 ⊢
   rw[if_neg e6] at e10
   rw[if_neg (by rw[e5];exact e6)]
   revert e10
   unfold BlkC
   cases ρ' c with
   | none =>
    intro e10
    have e10':kc.cs=[]:=e10
    rw[e10'] at e8
    simp[mapM1] at e8
    show k.cs=[]
    exact e8
   | some p =>
    obtain⟨r,σ⟩:=p
    rintro⟨f1,⟨f2,fT⟩,f3,f4,arr,ty,f5,f6,f7⟩
    have hlen:=mapM1_len e8
    refine⟨hmine0 r f1,⟨fun e=>by rw[e4] at e;simp at e,fT.len e5 hlen⟩,fun _=>f3 e9,by omega,arr,ty,f5,f6, ?_⟩
    rw[hlen]
    exact mapM1_sound (up1_sound hbk) _ _ _ e8 f7
  ·rw[hρ]
   refine BlkOk.mono h1 (fun r σ e hfr hnI hi=>?_) (fun b hi off=>?_) (fun r σ e=>hup.block r (hoth b k r σ hk' hn e)) hMf (hf.hp b k hk')
   ·rcases h2 r hi with e'|e'
    ·exact hnI e'
    ·exact hoth b k r σ hk' hn e e'
   ·rcases hi with hi|⟨b',k',σ',hm,hk'',hρ'⟩
    ·exact hcell b hi off
    ·refine cell_of_heap (hup.block b ?_) off
     refine hoth b' _ b σ' (by rw[hlook_frzAll,hk''];rfl) (hfz b' hm) hρ'
 ·intro b1 b2 k1 k2 r σ1 σ2 hk1 hk2 hp1 hp2
  rcases hbk.B b1 k1 hk1 with⟨c1,hc1⟩|⟨hk1',hn1,_,hρ1⟩<;>rcases hbk.B b2 k2 hk2 with⟨c2,hc2⟩|⟨hk2',hn2,_,hρ2⟩
  ·obtain⟨_,kc1,_,e2,_,_,_,_,e7,_⟩:=hbk.A c1 b1 _ hc1
   obtain⟨_,kc2,_,f2,_,_,_,_,f7,_⟩:=hbk.A c2 b2 _ hc2
   rw[e7] at hp1
   rw[f7] at hp2
   have:=hgate.inj c1 c2 kc1 kc2 r σ1 σ2 e2 f2 hp1 hp2
   subst this
   rw[hc1] at hc2
   cases hc2
   rfl
  ·obtain⟨_,kc1,_,e2,_,_,_,_,e7,_⟩:=hbk.A c1 b1 _ hc1
   rw[e7] at hp1
   rw[hρ2] at hp2
   have:=(hgate.ok c1 kc1 e2).2
   rw[hp1] at this
   exact absurd this.first.1 (hoth b2 k2 r σ2 hk2' hn2 hp2)
  ·obtain⟨_,kc2,_,f2,_,_,_,_,f7,_⟩:=hbk.A c2 b2 _ hc2
   rw[f7] at hp2
   rw[hρ1] at hp1
   have:=(hgate.ok c2 kc2 f2).2
   rw[hp2] at this
   exact absurd this.first.1 (hoth b1 k1 r σ1 hk1' hn1 hp1)
  ·rw[hρ1] at hp1
   rw[hρ2] at hp2
   exact hf.inj b1 b2 k1 k2 r σ1 σ2 hk1' hk2' hp1 hp2
theorem hlook_appH0 (e:Eff) (h:Hp) (b:Nat):hlook (appH e h) b =
  match e.nw2 with
  | some (b',k)=>if b'=b then some k else hlook (appH { e with nw2:=none } h) b
  | none=>hlook (appH { e with nw2:=none } h) b:=by
 unfold appH
 cases e.nw2 with
 | none=>rfl
 | some p=>obtain⟨b',k⟩:=p;simp only[hlook_hput]
theorem hlook_appH (e:Eff) (h:Hp) (b:Nat):hlook (appH { e with nw2:=none } h) b =
  match e.nw with
  | some (b',k)=>if b'=b then some k else hlook (appH { e with nw2:=none,nw:=none } h) b
  | none=>hlook (appH { e with nw2:=none,nw:=none } h) b:=by
 unfold appH
 cases e.nw with
 | none=>rfl
 | some p=>obtain⟨b',k⟩:=p;simp only[hlook_hput]
theorem hlook_appH2 (e:Eff) (h:Hp) (b:Nat):hlook (appH { e with nw2:=none,nw:=none } h) b =
  match e.st with
  | some (b',k)=>if b'=b then some k else hlook (appH { e with nw2:=none,nw:=none,st:=none } h) b
  | none=>hlook (appH { e with nw2:=none,nw:=none,st:=none } h) b:=by
 unfold appH
 cases e.st with
 | none=>rfl
 | some p=>obtain⟨b',k⟩:=p;simp only[hlook_hput]
theorem hlook_appH3 (e:Eff) (h:Hp) (b:Nat):hlook (appH { e with nw2:=none,nw:=none,st:=none } h) b =
  if e.rm2=some b then none else if e.rm=some b then none else (hlook h b).map fun k=>if e.fz.contains b then { k with frz:=true } else k:=by
 unfold appH
 have hf:hlook (match e.fz with|[]=>h|f=>frzAll f h) b=(hlook h b).map fun k=>if e.fz.contains b then { k with frz:=true } else k:=by
  cases hz:e.fz with
  | nil=>cases hlook h b<;>simp
  | cons c l=>simp only[];rw[← hz,hlook_frzAll]
 cases e.rm2 with
 | none =>
  cases e.rm with
  | none=>simp only[reduceCtorEq,if_false];exact hf
  | some b' =>
   simp only[hlook_hdel,Option.some.injEq,reduceCtorEq,if_false]
   split
   ·rfl
   ·exact hf
 | some c =>
  cases e.rm with
  | none =>
   simp only[hlook_hdel,Option.some.injEq,reduceCtorEq,if_false]
   split
   ·rfl
   ·exact hf
  | some b' =>
   simp only[hlook_hdel,Option.some.injEq]
   split
   ·rfl
   ·split
    ·rfl
    ·exact hf
theorem gmap_kept {kept new:Option Nat} {b g:Nat} (h:gmap s kept new 0=some (b,g)):kept=some b∧g=s.g b:=by
 cases kept with
 | none=>simp[gmap] at h
 | some x=>simp[gmap] at h;obtain⟨rfl,rfl⟩:=h;exact⟨rfl,rfl⟩
theorem gmap_new {kept new:Option Nat} {b g:Nat} (h:gmap s kept new 2=some (b,g)):new=some b∧g=s.g b+1:=by
 cases new with
 | none=>simp[gmap] at h
 | some x=>simp[gmap] at h;obtain⟨rfl,rfl⟩:=h;exact⟨rfl,rfl⟩
theorem gmap_two {kept new:Option Nat} {c b g:Nat} (h:gmap s kept new c=some (b,g)):c=0∨c=2:=by
 unfold gmap at h
 split at h
 ·exact .inl rfl
 ·exact .inr rfl
 ·cases h
theorem back_of (h:R w0 I0 N I ρ s a w) {fp bs fz:List Nat} {hg h':Hp} (hb:gblks s fp bs bs 0=some hg) {ρ':Nat→Place} (hρ:∀ b k k',hlook hg b=some k→hlook h' b=some k'→ρ' b=gpl ρ bs b)
  (kept rm new:Option Nat) (hbs:∀ b,kept=some b→bs[0]? = some b) (hbs2:∀ b∈bs,kept=some b∨rm=some b) (hrm:∀ b,rm=some b→kept≠some b) (hnew:∀ b,new=some b→kept≠some b)
  (ks kn:Blk) (hks:∀ b,kept=some b→∃ kc,hlook h' 0=some kc∧ks.frz=false∧ks.esz=kc.esz∧kc.esz≠mapTag∧mapM1 (up1 (gmap s kept new)) kc.cs=some ks.cs∧(hlook s.h b).map (·.esz)=some kc.esz)
  (hkn:∀ b,new=some b→∃ kc,hlook h' 2=some kc∧kn.frz=false∧kn.esz=kc.esz∧kc.esz≠mapTag∧mapM1 (up1 (gmap s kept new)) kc.cs=some kn.cs) :
  Back s ρ bs fz h' ρ' (gmap s kept new) (appH { rm:=rm,st:=kept.map (·,ks),nw:=new.map (·,kn),fz:=fz } s.h) (appG { nw:=new.map (·,kn) } s.g) (fun b=>if new=some b then ρ' 2 else ρ b):=by
 obtain⟨g1,g2⟩:=gblks_spec hb
 have hG:∀ b,appG { nw:=new.map (·,kn) } s.g b=if new=some b then s.g b+1 else s.g b:=by
  intro b
  cases new with
  | none=>simp[appG]
  | some n =>
   simp only[appG,Option.map_some,bump,Option.some.injEq]
   by_cases e:b=n
   ·subst e;simp
   ·rw[if_neg e,if_neg (fun x=>e x.symm)]
 have hH:∀ b,hlook (appH { rm:=rm,st:=kept.map (·,ks),nw:=new.map (·,kn),fz:=fz } s.h) b=if new=some b then some kn else if kept=some b then some ks else if rm=some b then none else hlook (frzAll fz s.h) b:=by
  intro b
  have hf:hlook (frzAll fz s.h) b=(hlook s.h b).map fun k=>if fz.contains b then { k with frz:=true } else k:=hlook_frzAll ..
  rw[hlook_appH0,hlook_appH,hlook_appH2,hlook_appH3,hf]
  cases new<;>cases kept<;>simp
 refine⟨fun c b g hm=>?_,fun b k hk=>?_,fun b=>?_,fun c b hm=>?_,fun c c' b g g' hm hm'=>?_,fun b hg'=>?_,fun c b g hm=>?_⟩
 ·rcases gmap_two hm with rfl|rfl
  ·obtain⟨e1,rfl⟩:=gmap_kept hm
   have hn:new≠some b:=fun e=>hnew b e e1
   obtain⟨kc,h1,h2,h3,h4,h5,h6⟩:=hks b e1
   refine⟨by rw[hG,if_neg hn],kc,ks,h1,by rw[hH,if_neg hn,if_pos e1],h2,h3,h4, ?_,h5⟩
   rw[if_neg hn]
   rw[Option.map_eq_some_iff] at h6
   obtain⟨kb,hkb,_⟩:=h6
   obtain⟨k0,hk0⟩:=g2 0 b kb (hbs b e1) hkb
   rw[hρ 0 k0 kc (by simpa using hk0) h1]
   simp only[gpl,hbs b e1]
  ·obtain⟨e1,rfl⟩:=gmap_new hm
   obtain⟨kc,h1,h2,h3,h4,h5⟩:=hkn b e1
   exact⟨by rw[hG,if_pos e1],kc,kn,h1,by rw[hH,if_pos e1],h2,h3,h4,by rw[if_pos e1],h5⟩
 ·rw[hH] at hk
  rw[hG]
  split at hk
  ·rename_i e
   rw[if_pos e]
   exact .inl ⟨2,by subst e;rfl⟩
  ·rename_i e
   rw[if_neg e]
   split at hk
   ·rename_i e2
    exact .inl ⟨0,by subst e2;rfl⟩
   ·rename_i e2
    split at hk
    ·cases hk
    ·rename_i e3
     refine .inr ⟨hk,fun hm=>?_,rfl,by rw[if_neg e]⟩
     rcases hbs2 b hm with x|x
     ·exact e2 x
     ·exact e3 x
 ·rw[hG];split<;>omega
 ·rcases gmap_two hm with rfl|rfl
  ·obtain⟨e1,_⟩:=gmap_kept hm
   have hn:new≠some b:=fun e=>hnew b e e1
   obtain⟨kc,h1,h2,h3,h4,h5,h6⟩:=hks b e1
   rw[Option.map_eq_some_iff] at h6
   obtain⟨k0,hk0,he⟩:=h6
   exact⟨k0,ks,hk0,by rw[hH,if_neg hn,if_pos e1],by rw[h3,he]⟩
  ·obtain⟨_,e2⟩:=gmap_new hm
   omega
 ·rcases gmap_two hm with rfl|rfl<;>rcases gmap_two hm' with rfl|rfl
  ·rfl
  ·obtain⟨e1,_⟩:=gmap_kept hm
   obtain⟨e2,_⟩:=gmap_new hm'
   exact absurd e1 (hnew b e2)
  ·obtain⟨e1,_⟩:=gmap_kept hm'
   obtain⟨e2,_⟩:=gmap_new hm
   exact absurd e1 (hnew b e2)
  ·rfl
 ·rw[hG] at hg'
  split at hg'
  ·omega
  ·rename_i e;exact if_neg e
 ·rcases gmap_two hm with rfl|rfl
  ·obtain⟨e1,_⟩:=gmap_kept hm
   exact .inl (List.mem_of_getElem? (hbs b e1))
  ·exact .inr (gmap_new hm).2
theorem gmap2_kept {kept n1 n2:Option Nat} {b g:Nat} (h:gmap2 s kept n1 n2 0=some (b,g)):kept=some b∧g=s.g b:=by
 cases kept with
 | none=>simp[gmap2] at h
 | some x=>simp[gmap2] at h;obtain⟨rfl,rfl⟩:=h;exact⟨rfl,rfl⟩
theorem gmap2_3 {kept n1 n2:Option Nat} {b g:Nat} (h:gmap2 s kept n1 n2 3=some (b,g)):n1=some b∧g=s.g b+1:=by
 cases n1 with
 | none=>simp[gmap2] at h
 | some x=>simp[gmap2] at h;obtain⟨rfl,rfl⟩:=h;exact⟨rfl,rfl⟩
theorem gmap2_4 {kept n1 n2:Option Nat} {b g:Nat} (h:gmap2 s kept n1 n2 4=some (b,g)):n2=some b∧g=s.g b+1:=by
 cases n2 with
 | none=>simp[gmap2] at h
 | some x=>simp[gmap2] at h;obtain⟨rfl,rfl⟩:=h;exact⟨rfl,rfl⟩
theorem gmap2_three {kept n1 n2:Option Nat} {c b g:Nat} (h:gmap2 s kept n1 n2 c=some (b,g)):c=0∨c=3∨c=4:=by
 unfold gmap2 at h
 split at h
 ·exact .inl rfl
 ·exact .inr (.inl rfl)
 ·exact .inr (.inr rfl)
 ·cases h
theorem back_of2 (h:R w0 I0 N I ρ s a w) {fp bs fz:List Nat} {hg h':Hp} (hb:gblks s fp bs bs 0=some hg) {ρ':Nat→Place} (hρ:∀ b k k',hlook hg b=some k→hlook h' b=some k'→ρ' b=gpl ρ bs b)
  (kept rm rm2 n1 n2:Option Nat) (hbs:∀ b,kept=some b→bs[0]? = some b) (hbs2:∀ b∈bs,kept=some b∨rm=some b∨rm2=some b) (hnew1:∀ b,n1=some b→kept≠some b) (hnew2:∀ b,n2=some b→kept≠some b∧n1≠some b)
  (ks k3 k4:Blk) (hks:∀ b,kept=some b→∃ kc,hlook h' 0=some kc∧ks.frz=false∧ks.esz=kc.esz∧kc.esz≠mapTag∧mapM1 (up1 (gmap2 s kept n1 n2)) kc.cs=some ks.cs∧(hlook s.h b).map (·.esz)=some kc.esz)
  (hk3:∀ b,n1=some b→∃ kc,hlook h' 3=some kc∧k3.frz=false∧k3.esz=kc.esz∧kc.esz≠mapTag∧mapM1 (up1 (gmap2 s kept n1 n2)) kc.cs=some k3.cs)
  (hk4:∀ b,n2=some b→∃ kc,hlook h' 4=some kc∧k4.frz=false∧k4.esz=kc.esz∧kc.esz≠mapTag∧mapM1 (up1 (gmap2 s kept n1 n2)) kc.cs=some k4.cs) :
  Back s ρ bs fz h' ρ' (gmap2 s kept n1 n2) (appH { rm:=rm,rm2:=rm2,st:=kept.map (·,ks),nw:=n1.map (·,k3),nw2:=n2.map (·,k4),fz:=fz } s.h) (appG { nw:=n1.map (·,k3),nw2:=n2.map (·,k4) } s.g) (fun b=>if n2=some b then ρ' 4 else if n1=some b then ρ' 3 else ρ b):=by
 obtain⟨g1,g2⟩:=gblks_spec hb
 have hG:∀ b,appG { nw:=n1.map (·,k3),nw2:=n2.map (·,k4) } s.g b=if n2=some b then s.g b+1 else if n1=some b then s.g b+1 else s.g b:=by
  intro b
  have hq:=hnew2 b
  cases n1 with
  | none =>
   cases n2 with
   | none=>simp[appG]
   | some m =>
    simp only[appG,Option.map_some,Option.map_none,bump,Option.some.injEq,reduceCtorEq,if_false]
    by_cases e:b=m
    ·subst e;simp
    ·rw[if_neg e,if_neg (fun x=>e x.symm)]
  | some n =>
   cases n2 with
   | none =>
    simp only[appG,Option.map_some,Option.map_none,bump,Option.some.injEq,reduceCtorEq,if_false]
    by_cases e:b=n
    ·subst e;simp
    ·rw[if_neg e,if_neg (fun x=>e x.symm)]
   | some m =>
    simp only[appG,Option.map_some,bump,Option.some.injEq] at hq ⊢
    by_cases e:b=m
    ·have hbn:¬ b=n:=fun x=>(hq e.symm).2 (by rw[x])
     have hnb:¬ n=b:=fun x=>hbn x.symm
     simp[e]
     simp[← e,hbn]
    ·have e':¬ m=b:=fun x=>e x.symm
     by_cases e2:b=n
     ·simp[e2]
      simp[← e2,e,e']
     ·have e2':¬ n=b:=fun x=>e2 x.symm
      simp[e,e',e2,e2']
 have hf:∀ b,hlook (frzAll fz s.h) b=(hlook s.h b).map fun k=>if fz.contains b then { k with frz:=true } else k:=fun b=>hlook_frzAll ..
 have hH:∀ b,hlook (appH { rm:=rm,rm2:=rm2,st:=kept.map (·,ks),nw:=n1.map (·,k3),nw2:=n2.map (·,k4),fz:=fz } s.h) b=if n2=some b then some k4 else if n1=some b then some k3 else if kept=some b then some ks else if rm2=some b then none else if rm=some b then none else hlook (frzAll fz s.h) b:=by
  intro b
  rw[hlook_appH0,hlook_appH,hlook_appH2,hlook_appH3,hf]
  cases n2<;>cases n1<;>cases kept<;>simp
 refine⟨fun c b g hm=>?_,fun b k hk=>?_,fun b=>?_,fun c b hm=>?_,fun c c' b g g' hm hm'=>?_,fun b hg'=>?_,fun c b g hm=>?_⟩
 ·rcases gmap2_three hm with rfl|rfl|rfl
  ·obtain⟨e1,rfl⟩:=gmap2_kept hm
   have hn1:n1≠some b:=fun e=>hnew1 b e e1
   have hn2:n2≠some b:=fun e=>(hnew2 b e).1 e1
   obtain⟨kc,h1,h2,h3,h4,h5,h6⟩:=hks b e1
   refine⟨by rw[hG,if_neg hn2,if_neg hn1],kc,ks,h1,by rw[hH,if_neg hn2,if_neg hn1,if_pos e1],h2,h3,h4, ?_,h5⟩
   rw[if_neg hn2,if_neg hn1]
   rw[Option.map_eq_some_iff] at h6
   obtain⟨kb,hkb,_⟩:=h6
   obtain⟨k0,hk0⟩:=g2 0 b kb (hbs b e1) hkb
   rw[hρ 0 k0 kc (by simpa using hk0) h1]
   simp only[gpl,hbs b e1]
  ·obtain⟨e1,rfl⟩:=gmap2_3 hm
   have hn2:n2≠some b:=fun e=>(hnew2 b e).2 e1
   obtain⟨kc,h1,h2,h3,h4,h5⟩:=hk3 b e1
   exact⟨by rw[hG,if_neg hn2,if_pos e1],kc,k3,h1,by rw[hH,if_neg hn2,if_pos e1],h2,h3,h4,by rw[if_neg hn2,if_pos e1],h5⟩
  ·obtain⟨e1,rfl⟩:=gmap2_4 hm
   obtain⟨kc,h1,h2,h3,h4,h5⟩:=hk4 b e1
   exact⟨by rw[hG,if_pos e1],kc,k4,h1,by rw[hH,if_pos e1],h2,h3,h4,by rw[if_pos e1],h5⟩
 ·rw[hH] at hk
  rw[hG]
  split at hk
  ·rename_i e
   rw[if_pos e]
   exact .inl ⟨4,by subst e;rfl⟩
  ·rename_i e
   rw[if_neg e]
   split at hk
   ·rename_i e1
    rw[if_pos e1]
    exact .inl ⟨3,by subst e1;rfl⟩
   ·rename_i e1
    rw[if_neg e1]
    split at hk
    ·rename_i e2
     exact .inl ⟨0,by subst e2;rfl⟩
    ·rename_i e2
     split at hk
     ·cases hk
     ·rename_i e3
      split at hk
      ·cases hk
      ·rename_i e4
       refine .inr ⟨hk,fun hm=>?_,rfl,by rw[if_neg e,if_neg e1]⟩
       rcases hbs2 b hm with x|x|x
       ·exact e2 x
       ·exact e4 x
       ·exact e3 x
 ·rw[hG];split<;>(try split)<;>omega
 ·rcases gmap2_three hm with rfl|rfl|rfl
  ·obtain⟨e1,_⟩:=gmap2_kept hm
   have hn1:n1≠some b:=fun e=>hnew1 b e e1
   have hn2:n2≠some b:=fun e=>(hnew2 b e).1 e1
   obtain⟨kc,h1,h2,h3,h4,h5,h6⟩:=hks b e1
   rw[Option.map_eq_some_iff] at h6
   obtain⟨k0,hk0,he⟩:=h6
   exact⟨k0,ks,hk0,by rw[hH,if_neg hn2,if_neg hn1,if_pos e1],by rw[h3,he]⟩
  ·obtain⟨_,e2⟩:=gmap2_3 hm
   omega
  ·obtain⟨_,e2⟩:=gmap2_4 hm
   omega
 ·rcases gmap2_three hm with rfl|rfl|rfl<;>rcases gmap2_three hm' with rfl|rfl|rfl
  ·rfl
  ·exact absurd (gmap2_kept hm).1 (hnew1 b (gmap2_3 hm').1)
  ·exact absurd (gmap2_kept hm).1 (hnew2 b (gmap2_4 hm').1).1
  ·exact absurd (gmap2_kept hm').1 (hnew1 b (gmap2_3 hm).1)
  ·rfl
  ·exact absurd (gmap2_3 hm).1 (hnew2 b (gmap2_4 hm').1).2
  ·exact absurd (gmap2_kept hm').1 (hnew2 b (gmap2_4 hm).1).1
  ·exact absurd (gmap2_3 hm').1 (hnew2 b (gmap2_4 hm).1).2
  ·rfl
 ·rw[hG] at hg'
  split at hg'
  ·omega
  ·rename_i e
   split at hg'
   ·omega
   ·rename_i e1
    show (if n2=some b then ρ' 4 else if n1=some b then ρ' 3 else ρ b)=ρ b
    rw[if_neg e,if_neg e1]
 ·rcases gmap2_three hm with rfl|rfl|rfl
  ·obtain⟨e1,_⟩:=gmap2_kept hm
   exact .inl (List.mem_of_getElem? (hbs b e1))
  ·exact .inr (gmap2_3 hm).2
  ·exact .inr (gmap2_4 hm).2
theorem sim_gcall (hC:∀ f,Contract P f (C f)) (hd:o.dst=ao.d) (hN:∀ n,ao.d=some n→n<N) (f:FuncId) (ys:Array Operand) (ts:Array TypeId) (xs:List AOpd) (bs:List Nat) (nid:Nat)
  (ho:o.op=.call { callee:=.value (.func f),args:=ys,argTypes:=ts }) (hao:ao.op=.gcall f xs bs nid) (hm:mOpds ys.toList xs=true):Sim P N o C ao:=by
 intro w0 I0 I ρ s a w e K Q h he hK
 unfold eff at he
 rw[hao] at he
 simp only[] at he
 split at he
 ·rename_i vs fz hg hp hb
  split at he
  ·rename_i hfz0
   have hfz:∀ b∈fz,b ∉ bs:=by
    intro b hm
    rw[List.all_eq_true] at hfz0
    simpa using hfz0 b hm
   split at he
   ·rename_i r out hr
    split at he
    ·rename_i h' hdec
     rw[encs_decs hdec] at hr
     have hv:=gargs_sound h (gblks_near hb) _ _ _ _ hp (h.opds hm)
     obtain⟨g1,g2⟩:=gblks_spec hb
     have hf:=h.freeze fz
     -- the list of given blocks has no block twice
     have hnd:∀(i i' b:Nat),bs[i]? = some b→bs[i']? = some b→i=i':=by
      unfold geff at he
      split at he
      ·intro i i' b h1;simp at h1
      ·intro i i' b h1;simp at h1
      ·intro i i' b h1 h2
       have e1:=(List.getElem?_eq_some_iff.1 h1).1
       have e2:=(List.getElem?_eq_some_iff.1 h2).1
       simp at e1 e2
       omega
      ·rename_i b0 x0 k k2
       split at he
       ·split at he
        ·rename_i hc
         intro i i' b h1 h2
         have e1:=(List.getElem?_eq_some_iff.1 h1).1
         have e2:=(List.getElem?_eq_some_iff.1 h2).1
         simp at e1 e2
         match i,i',e1,e2 with
         | 0,0,_,_=>rfl
         | 1,1,_,_=>rfl
         | 0,1,_,_=>simp at h1 h2;exact absurd (h1.trans h2.symm) hc.2.2.2
         | 1,0,_,_=>simp at h1 h2;exact absurd (h2.trans h1.symm) hc.2.2.2
        ·cases he
       ·cases he
      ·cases he
     have hlt2:∀ b k,hlook hg b=some k→b<2:=by
      intro i k hk
      obtain⟨_,b,k0,h4,_⟩:=g1 i k hk
      simp only[Nat.sub_zero] at h4
      have e1:=(List.getElem?_eq_some_iff.1 h4).1
      have e2:bs.length≤2:=by
       unfold geff at he
       split at he
       ·simp
       ·simp
       ·simp
       ·simp
       ·cases he
      omega
     have hgate:Gate (gbase w hg (gpl ρ bs)) (frzI I ρ s fz) w hg (gpl ρ bs):=by
      refine⟨fun i k hk=>?_,fun i i' k k' r σ σ' hk hk' hq hq'=>?_⟩
      ·obtain⟨_,b,k0,h4,h5,h6,h7,h8,h9,h10⟩:=g1 i k hk
       simp only[Nat.sub_zero] at h4
       have hk1:hlook (frzAll fz s.h) b=some k0:=by
        rw[hlook_frzAll,h5]
        simp only[Option.map_some,Option.some.injEq]
        rw[if_neg]
        intro hc
        exact hfz b (by simpa using hc) (List.mem_of_getElem? h4)
       have e1:=hf.hp b k0 hk1
       have e2:=h.hp b k0 h5
       refine⟨h9, ?_⟩
       have hpl:gpl ρ bs i=ρ b:=by simp only[gpl,h4]
       rw[hpl]
       unfold BlkOk at e1 e2 ⊢
       rw[if_neg h7] at e1 e2
       rw[if_neg (by rw[h10];exact h7)]
       revert e1 e2
       unfold BlkC
       cases hq:ρ b with
       | none =>
        intro _ e2
        have e3:k0.cs=[]:=e2
        rw[e3] at h8
        simp[mapM1] at h8
        show k.cs=[]
        exact h8
       | some p =>
        obtain⟨r,σ⟩:=p
        rintro⟨_,_,f3,_⟩ ⟨_,⟨_,fT⟩,_,f4,arr,ty,f5,f6,f7⟩
        have hlen:=mapM1_len h8
        refine⟨.inr ⟨i,σ,⟨k,hk⟩,by show gpl ρ bs i=_;rw[hpl,hq]⟩,⟨fun e=>(by rw[h9] at e;cases e),fT.len h10 hlen⟩,fun _=>f3 h6,by omega,arr,ty,f5,f6, ?_⟩
        rw[hlen]
        exact VRs.mono (fun b hb=>.inl hb) (fun _ _ _=>rfl) _ _ (Mode.le_refl _) (mapM1_sound (nrm1_sound h (gblks_near hb)) _ _ _ h8 f7)
      ·obtain⟨_,b,k0,h4,h5,_⟩:=g1 i k hk
       obtain⟨_,b',k0',h4',h5',_⟩:=g1 i' k' hk'
       simp only[Nat.sub_zero] at h4 h4'
       simp only[gpl,h4] at hq
       simp only[gpl,h4'] at hq'
       have:=h.inj b b' k0 k0' r σ σ' h5 h5' hq hq'
       subst this
       exact hnd i i' b h4 h4'
     obtain⟨c1,c2⟩:=(hC (gBase+f)).gate _ w _ _ r hg h' _ hr (gblks_frz hb) (decs_all hdec) hv (fun b k hk=>.inl (hlt2 b k hk)) hgate hf.imm hf.tab
     have hargs:(ys.map a.eval)=(ys.toList.map a.eval).toArray:=by apply Array.ext';simp
     have hrun:(execOp a.eval o).run P w=(callFunc f (ys.toList.map a.eval).toArray).run P w:=by
      simp[execOp,ho,resolve,Act.eval,Deferred.ofValue,invoke,hargs]
     unfold Oper.wp
     rw[hrun,c1 w]
     simp only[Oper.upon]
     refine Calls.mono c2 ?_
     rintro e' w' ⟨v,rfl,I',ρ',hup,i1,i2,i3,hkept,hgate',hvr⟩
     -- the three shapes
     have fin:∀(kept rm new:Option Nat) (ks kn:Blk) (v':AV),Back s ρ bs fz h' ρ' (gmap s kept new) (appH { rm:=rm,st:=kept.map (·,ks),nw:=new.map (·,kn),fz:=fz } s.h) (appG { nw:=new.map (·,kn) } s.g) (fun b=>if new=some b then ρ' 2 else ρ b) →
       up (gmap s kept new) r=some v'→e={ v:=some v',rm:=rm,st:=kept.map (·,ks),nw:=new.map (·,kn),fz:=fz }→K (a.put o.dst v) w':=by
      intro kept rm new ks kn v' hbk hu hee
      subst hee
      have hR:=h.gcalled hb hfz hbk hup i1 i2 i3 hgate'
      refine hK I' (fun b=>if new=some b then ρ' 2 else ρ b) _ w' ?_
      rw[hd]
      have hvv:=up_sound (t2:=s.t) hbk r v v' hu hvr
      have:=hR.putO (d:=ao.d) (x:=some v') (v:=v) hN (fun y hy=>by cases hy;exact hvv)
      exact this
     unfold geff at he
     split at he
     ·split at he
      ·rename_i v' hu
       cases he
       refine fin none none none ⟨[],false,0⟩ ⟨[],false,0⟩ v' ?_ hu rfl
       exact back_of h hb hkept none none none (by simp) (by simp) (by simp) (by simp) _ _ (by simp) (by simp)
      ·cases he
     ·rename_i k
      split at he
      ·rename_i v' cs hu hcs
       split at he
       ·rename_i hne
        cases he
        refine fin none none (some nid) ⟨[],false,0⟩ ⟨cs,false,k.esz⟩ v' ?_ hu rfl
        refine back_of h hb hkept none none (some nid) (by simp) (by simp) (by simp) (by simp) _ _ (by simp) ?_
        intro b hb'
        exact⟨k,by simp[hlook],rfl,rfl,hne,hcs⟩
       ·cases he
      ·cases he
     ·rename_i b0 k
      split at he
      ·rename_i v' cs hu hcs
       split at he
       ·rename_i hne
        cases he
        refine fin (some b0) none none ⟨cs,false,k.esz⟩ ⟨[],false,0⟩ v' ?_ hu rfl
        refine back_of h hb hkept (some b0) none none (by simp) (by simp) (by simp) (by simp) _ _ ?_ (by simp)
        intro b hb'
        cases hb'
        have hne0:=hne
        rw[Option.map_eq_some_iff] at hne0
        obtain⟨kb,hkb,_⟩:=hne0
        obtain⟨kk,hkk⟩:=g2 0 b0 kb (by simp) hkb
        obtain⟨_,b1,k0,h4,h5,_,h7,_,_,h10⟩:=g1 _ kk hkk
        simp at h4
        subst h4
        have hne':=hne
        rw[h5] at hne'
        simp only[Option.map_some,Option.some.injEq] at hne'
        exact⟨k,by simp[hlook],rfl,rfl,by rw[← hne'];exact h7,hcs,hne⟩
       ·cases he
      ·cases he
     ·rename_i b0 x0 k k2
      split at he
      ·rename_i v' cs cs2 hu hcs hcs2
       split at he
       ·rename_i hc
        obtain⟨hne,hne2,hnb,hbx⟩:=hc
        cases he
        refine fin (some b0) (some x0) (some nid) ⟨cs,false,k.esz⟩ ⟨cs2,false,k2.esz⟩ v' ?_ hu rfl
        refine back_of h hb hkept (some b0) (some x0) (some nid) (by simp) (by simp) (fun b hb'=>by cases hb';simpa using hbx) (fun b hb'=>by cases hb';simpa using Ne.symm hnb) _ _ ?_ ?_
        ·intro b hb'
         cases hb'
         have hne0:=hne
         rw[Option.map_eq_some_iff] at hne0
         obtain⟨kb,hkb,_⟩:=hne0
         obtain⟨kk,hkk⟩:=g2 0 b0 kb (by simp) hkb
         obtain⟨_,b1,k0,h4,h5,_,h7,_,_,h10⟩:=g1 _ kk hkk
         simp at h4
         subst h4
         have hne':=hne
         rw[h5] at hne'
         simp only[Option.map_some,Option.some.injEq] at hne'
         exact⟨k,by simp[hlook],rfl,rfl,by rw[← hne'];exact h7,hcs,hne⟩
        ·intro b hb'
         exact⟨k2,by simp[hlook],rfl,rfl,hne2,hcs2⟩
       ·cases he
      ·cases he
     ·cases he
    ·cases he
   ·cases he
  ·cases he
 ·cases he
theorem sim_gcal2 (hC:∀ f,Contract P f (C f)) (hd:o.dst=ao.d) (hN:∀ n,ao.d=some n→n<N) (f:FuncId) (ys:Array Operand) (ts:Array TypeId) (xs:List AOpd) (bs:List Nat) (n1 n2:Nat)
  (ho:o.op=.call { callee:=.value (.func f),args:=ys,argTypes:=ts }) (hao:ao.op=.gcal2 f xs bs n1 n2) (hm:mOpds ys.toList xs=true):Sim P N o C ao:=by
 intro w0 I0 I ρ s a w e K Q h he hK
 unfold eff at he
 rw[hao] at he
 simp only[] at he
 split at he
 ·rename_i vs fz hg hp hb
  split at he
  ·rename_i hfz0
   have hfz:∀ b∈fz,b ∉ bs:=by
    intro b hm
    rw[List.all_eq_true] at hfz0
    simpa using hfz0 b hm
   split at he
   ·rename_i r out hr
    split at he
    ·rename_i h' hdec
     rw[encs_decs hdec] at hr
     have hv:=gargs_sound h (gblks_near hb) _ _ _ _ hp (h.opds hm)
     obtain⟨g1,g2⟩:=gblks_spec hb
     have hf:=h.freeze fz
     -- the list of given blocks has no block twice
     have hnd0:bs=[]∨∃ b x y,bs=[b,x,y]∧b≠x∧b≠y∧x≠y:=by
      unfold geff2 at he
      split at he
      ·exact .inl rfl
      ·exact .inl rfl
      ·rename_i b x y k
       split at he
       ·split at he
        ·rename_i hc
         exact .inr ⟨b,x,y,rfl,hc.2⟩
        ·cases he
       ·cases he
      ·rename_i b x y k k3
       split at he
       ·split at he
        ·rename_i hc
         exact .inr ⟨b,x,y,rfl,hc.2.2.2⟩
        ·cases he
       ·cases he
      ·rename_i b x y k k3 k4
       split at he
       ·split at he
        ·rename_i hc
         exact .inr ⟨b,x,y,rfl,hc.2.2.2.2.2.2⟩
        ·cases he
       ·cases he
      ·cases he
     have hnd:∀(i i' b:Nat),bs[i]? = some b→bs[i']? = some b→i=i':=by
      rcases hnd0 with rfl|⟨b,x,y,rfl,n1,n2,n3⟩
      ·intro i i' b h1;simp at h1
      ·intro i i' c h1 h2
       have e1:=(List.getElem?_eq_some_iff.1 h1).1
       have e2:=(List.getElem?_eq_some_iff.1 h2).1
       simp at e1 e2
       match i,i',e1,e2 with
       | 0,0,_,_=>rfl
       | 1,1,_,_=>rfl
       | 2,2,_,_=>rfl
       | 0,1,_,_=>simp at h1 h2;exact absurd (h1.trans h2.symm) n1
       | 0,2,_,_=>simp at h1 h2;exact absurd (h1.trans h2.symm) n2
       | 1,0,_,_=>simp at h1 h2;exact absurd (h2.trans h1.symm) n1
       | 1,2,_,_=>simp at h1 h2;exact absurd (h1.trans h2.symm) n3
       | 2,0,_,_=>simp at h1 h2;exact absurd (h2.trans h1.symm) n2
       | 2,1,_,_=>simp at h1 h2;exact absurd (h2.trans h1.symm) n3
     have hno2:hlook h' 2=none:=by
      unfold geff2 at he
      split at he
      ·rfl
      ·rfl
      ·rfl
      ·rfl
      ·rfl
      ·cases he
     have hlt2:∀ b k,hlook hg b=some k→b<2∨(b=2∧hlook h' 2=none):=by
      intro i k hk
      obtain⟨_,b,k0,h4,_⟩:=g1 i k hk
      simp only[Nat.sub_zero] at h4
      have e1:=(List.getElem?_eq_some_iff.1 h4).1
      have e2:bs.length≤3:=by
       rcases hnd0 with rfl|⟨b,x,y,rfl,_⟩<;>simp
      by_cases hi:i<2
      ·exact .inl hi
      ·exact .inr ⟨by omega,hno2⟩
     have hgate:Gate (gbase w hg (gpl ρ bs)) (frzI I ρ s fz) w hg (gpl ρ bs):=by
      refine⟨fun i k hk=>?_,fun i i' k k' r σ σ' hk hk' hq hq'=>?_⟩
      ·obtain⟨_,b,k0,h4,h5,h6,h7,h8,h9,h10⟩:=g1 i k hk
       simp only[Nat.sub_zero] at h4
       have hk1:hlook (frzAll fz s.h) b=some k0:=by
        rw[hlook_frzAll,h5]
        simp only[Option.map_some,Option.some.injEq]
        rw[if_neg]
        intro hc
        exact hfz b (by simpa using hc) (List.mem_of_getElem? h4)
       have e1:=hf.hp b k0 hk1
       have e2:=h.hp b k0 h5
       refine⟨h9, ?_⟩
       have hpl:gpl ρ bs i=ρ b:=by simp only[gpl,h4]
       rw[hpl]
       unfold BlkOk at e1 e2 ⊢
       rw[if_neg h7] at e1 e2
       rw[if_neg (by rw[h10];exact h7)]
       revert e1 e2
       unfold BlkC
       cases hq:ρ b with
       | none =>
        intro _ e2
        have e3:k0.cs=[]:=e2
        rw[e3] at h8
        simp[mapM1] at h8
        show k.cs=[]
        exact h8
       | some p =>
        obtain⟨r,σ⟩:=p
        rintro⟨_,_,f3,_⟩ ⟨_,⟨_,fT⟩,_,f4,arr,ty,f5,f6,f7⟩
        have hlen:=mapM1_len h8
        refine⟨.inr ⟨i,σ,⟨k,hk⟩,by show gpl ρ bs i=_;rw[hpl,hq]⟩,⟨fun e=>(by rw[h9] at e;cases e),fT.len h10 hlen⟩,fun _=>f3 h6,by omega,arr,ty,f5,f6, ?_⟩
        rw[hlen]
        exact VRs.mono (fun b hb=>.inl hb) (fun _ _ _=>rfl) _ _ (Mode.le_refl _) (mapM1_sound (nrm1_sound h (gblks_near hb)) _ _ _ h8 f7)
      ·obtain⟨_,b,k0,h4,h5,_⟩:=g1 i k hk
       obtain⟨_,b',k0',h4',h5',_⟩:=g1 i' k' hk'
       simp only[Nat.sub_zero] at h4 h4'
       simp only[gpl,h4] at hq
       simp only[gpl,h4'] at hq'
       have:=h.inj b b' k0 k0' r σ σ' h5 h5' hq hq'
       subst this
       exact hnd i i' b h4 h4'
     obtain⟨c1,c2⟩:=(hC (gBase+f)).gate _ w _ _ r hg h' _ hr (gblks_frz hb) (decs_all hdec) hv hlt2 hgate hf.imm hf.tab
     have hargs:(ys.map a.eval)=(ys.toList.map a.eval).toArray:=by apply Array.ext';simp
     have hrun:(execOp a.eval o).run P w=(callFunc f (ys.toList.map a.eval).toArray).run P w:=by
      simp[execOp,ho,resolve,Act.eval,Deferred.ofValue,invoke,hargs]
     unfold Oper.wp
     rw[hrun,c1 w]
     simp only[Oper.upon]
     refine Calls.mono c2 ?_
     rintro e' w' ⟨v,rfl,I',ρ',hup,i1,i2,i3,hkept,hgate',hvr⟩
     -- the shapes
     have fin:∀(kept rm rm2 n1 n2:Option Nat) (ks k3 k4:Blk) (v':AV),Back s ρ bs fz h' ρ' (gmap2 s kept n1 n2) (appH { rm:=rm,rm2:=rm2,st:=kept.map (·,ks),nw:=n1.map (·,k3),nw2:=n2.map (·,k4),fz:=fz } s.h) (appG { nw:=n1.map (·,k3),nw2:=n2.map (·,k4) } s.g) (fun b=>if n2=some b then ρ' 4 else if n1=some b then ρ' 3 else ρ b) →
       up (gmap2 s kept n1 n2) r=some v'→e={ v:=some v',rm:=rm,rm2:=rm2,st:=kept.map (·,ks),nw:=n1.map (·,k3),nw2:=n2.map (·,k4),fz:=fz }→K (a.put o.dst v) w':=by
      intro kept rm rm2 n1 n2 ks k3 k4 v' hbk hu hee
      subst hee
      have hR:=h.gcalled hb hfz hbk hup i1 i2 i3 hgate'
      refine hK I' (fun b=>if n2=some b then ρ' 4 else if n1=some b then ρ' 3 else ρ b) _ w' ?_
      rw[hd]
      have hvv:=up_sound (t2:=s.t) hbk r v v' hu hvr
      have:=hR.putO (d:=ao.d) (x:=some v') (v:=v) hN (fun y hy=>by cases hy;exact hvv)
      exact this
     have keptOk:∀(b0:Nat) (k:Blk) (cs:List AV) (gm:Nat→Option (Nat×Nat)),bs[0]? = some b0→hlook h' 0=some k→(hlook s.h b0).map (·.esz)=some k.esz→mapM1 (up1 gm) k.cs=some cs →
       ∃ kc,hlook h' 0=some kc∧(⟨cs,false,k.esz⟩:Blk).frz=false∧(⟨cs,false,k.esz⟩:Blk).esz=kc.esz∧kc.esz≠mapTag∧mapM1 (up1 gm) kc.cs=some (⟨cs,false,k.esz⟩:Blk).cs∧(hlook s.h b0).map (·.esz)=some kc.esz:=by
      intro b0 k cs gm hb0 hk0 hne hcs
      have hne0:=hne
      rw[Option.map_eq_some_iff] at hne0
      obtain⟨kb,hkb,_⟩:=hne0
      obtain⟨kk,hkk⟩:=g2 0 b0 kb hb0 hkb
      obtain⟨_,b1,k0,h4,h5,_,h7,_,_,h10⟩:=g1 _ kk hkk
      simp only[Nat.add_zero,Nat.sub_zero] at h4
      rw[hb0] at h4
      cases h4
      have hne':=hne
      rw[h5] at hne'
      simp only[Option.map_some,Option.some.injEq] at hne'
      exact⟨k,hk0,rfl,rfl,by rw[← hne'];exact h7,hcs,hne⟩
     unfold geff2 at he
     split at he
     ·rename_i k3
      split at he
      ·rename_i v' c3 hu hc3
       split at he
       ·rename_i hc
        cases he
        refine fin none none none (some n1) none ⟨[],false,0⟩ ⟨c3,false,k3.esz⟩ ⟨[],false,0⟩ v' ?_ hu rfl
        refine back_of2 h hb hkept none none none (some n1) none (by simp) (by simp) (by simp) (by simp) _ _ _ (by simp) ?_ (by simp)
        intro b hb'
        exact⟨k3,by simp[hlook],rfl,rfl,hc,hc3⟩
       ·cases he
      ·cases he
     ·rename_i k3 k4
      split at he
      ·rename_i v' c3 c4 hu hc3 hc4
       split at he
       ·rename_i hc
        cases he
        refine fin none none none (some n1) (some n2) ⟨[],false,0⟩ ⟨c3,false,k3.esz⟩ ⟨c4,false,k4.esz⟩ v' ?_ hu rfl
        refine back_of2 h hb hkept none none none (some n1) (some n2) (by simp) (by simp) (by simp) (fun b hb'=>by cases hb';exact⟨by simp,by simpa using hc.2.2⟩) _ _ _ (by simp) ?_ ?_
        ·intro b hb'
         exact⟨k3,by simp[hlook],rfl,rfl,hc.1,hc3⟩
        ·intro b hb'
         exact⟨k4,by simp[hlook],rfl,rfl,hc.2.1,hc4⟩
       ·cases he
      ·cases he
     ·rename_i b0 x0 y0 k
      split at he
      ·rename_i v' cs hu hcs
       split at he
       ·rename_i hc
        cases he
        refine fin (some b0) (some x0) (some y0) none none ⟨cs,false,k.esz⟩ ⟨[],false,0⟩ ⟨[],false,0⟩ v' ?_ hu rfl
        refine back_of2 h hb hkept (some b0) (some x0) (some y0) none none (by simp) (by simp) (by simp) (by simp) _ _ _ ?_ (by simp) (by simp)
        intro b hb'
        cases hb'
        exact keptOk b0 k cs _ (by simp) (by simp[hlook]) hc.1 hcs
       ·cases he
      ·cases he
     ·rename_i b0 x0 y0 k k3
      split at he
      ·rename_i v' cs c3 hu hcs hc3
       split at he
       ·rename_i hc
        cases he
        refine fin (some b0) (some x0) (some y0) (some n1) none ⟨cs,false,k.esz⟩ ⟨c3,false,k3.esz⟩ ⟨[],false,0⟩ v' ?_ hu rfl
        refine back_of2 h hb hkept (some b0) (some x0) (some y0) (some n1) none (by simp) (by simp) (fun b hb'=>by cases hb';simpa using Ne.symm hc.2.2.1) (by simp) _ _ _ ?_ ?_ (by simp)
        ·intro b hb'
         cases hb'
         exact keptOk b0 k cs _ (by simp) (by simp[hlook]) hc.1 hcs
        ·intro b hb'
         exact⟨k3,by simp[hlook],rfl,rfl,hc.2.1,hc3⟩
       ·cases he
      ·cases he
     ·rename_i b0 x0 y0 k k3 k4
      split at he
      ·rename_i v' cs c3 c4 hu hcs hc3 hc4
       split at he
       ·rename_i hc
        cases he
        refine fin (some b0) (some x0) (some y0) (some n1) (some n2) ⟨cs,false,k.esz⟩ ⟨c3,false,k3.esz⟩ ⟨c4,false,k4.esz⟩ v' ?_ hu rfl
        refine back_of2 h hb hkept (some b0) (some x0) (some y0) (some n1) (some n2) (by simp) (by simp) (fun b hb'=>by cases hb';simpa using Ne.symm hc.2.2.2.1) (fun b hb'=>by cases hb';exact⟨by simpa using Ne.symm hc.2.2.2.2.1,by simpa using hc.2.2.2.2.2.1⟩) _ _ _ ?_ ?_ ?_
        ·intro b hb'
         cases hb'
         exact keptOk b0 k cs _ (by simp) (by simp[hlook]) hc.1 hcs
        ·intro b hb'
         exact⟨k3,by simp[hlook],rfl,rfl,hc.2.1,hc3⟩
        ·intro b hb'
         exact⟨k4,by simp[hlook],rfl,rfl,hc.2.2.1,hc4⟩
       ·cases he
      ·cases he
     ·cases he
    ·cases he
   ·cases he
  ·cases he
 ·cases he
end
end Go.Am
