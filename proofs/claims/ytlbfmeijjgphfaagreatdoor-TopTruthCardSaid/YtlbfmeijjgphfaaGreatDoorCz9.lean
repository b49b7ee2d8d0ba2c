/- CO: texts of this claim, one behind the other. -/
import Derived.Test.YtlbfmeijjgphfaaGreatDoorCz8
import Derived.Test.YtlbfmeijjgphfaaGreatDoorCz5
import Derived.Test.YtlbfmeijjgphfaaGreatDoorCz7
set_option linter.unusedVariables false
set_option linter.unusedSimpArgs false
/- CO: do sums show what is asked within a box? where is it cut? -/
set_option maxHeartbeats 16000000
set_option maxRecDepth 100000
namespace Go.Co
open Go.Am Go.Proofs
attribute [-simp] Go.Am.eff_gcall
def c65_47:ACode:=.seq (.ops [⟨some 3,.box (.t 0) 6,none,[]⟩,⟨some 4,.box (.t 1) 17,none,[]⟩,⟨some 5,.box (.t 2) 10,none,[]⟩,⟨some 6,.mv (.c (.bool false)),none,[]⟩] [3,4,5]) (.seq (.seq (.ops [⟨some 15,.load 6 true (.t 3),none,[3]⟩,⟨some 16,.load 17 true (.t 4),none,[4]⟩,⟨some 17,.call 40 [.t 15,.t 16],none,[]⟩,⟨some 18,.un .not (.t 17),none,[]⟩] [3,4,5,18]) (.cond (.t 18) (.seq (.ops [⟨some 6,.mv (.c (.bool false)),none,[]⟩] [6]) .ret) .skip)) (.seq (.seq (.ops [⟨some 19,.load 10 true (.t 5),none,[5]⟩,⟨some 20,.call 52 [.t 19],none,[]⟩] [3,4,5,20]) (.cond (.t 20) (.seq (.ops [⟨some 6,.mv (.c (.bool true)),none,[]⟩] [6]) .ret) .skip)) (.seq (.seq (.ops [⟨some 21,.fad (.t 4) 0,none,[4]⟩,⟨some 22,.load 1 false (.t 21),none,[4]⟩] [3,4,5,22]) (.block 0 (.seq (.ops [⟨some 24,.bin .eql (.t 22) (.c (.int .i64 1)),none,[]⟩,⟨some 23,.mv (.t 24),none,[]⟩] [3,4,5,22,23]) (.cond (.t 23) (.seq (.ops [⟨some 26,.load 6 true (.t 3),none,[3]⟩,⟨some 27,.fad (.t 4) 1,none,[4]⟩,⟨some 28,.load 1 false (.t 27),none,[4]⟩,⟨some 29,.load 10 true (.t 5),none,[5]⟩,⟨some 30,.call 109 [.t 26,.t 28,.t 29],none,[]⟩,⟨some 25,.mv (.t 30),none,[]⟩,⟨some 31,.ext (.t 25) 0,none,[]⟩,⟨some 32,.ext (.t 25) 1,none,[]⟩,⟨some 33,.ext (.t 25) 2,none,[]⟩,⟨some 7,.mv (.t 31),none,[]⟩,⟨some 8,.mv (.t 32),none,[]⟩,⟨some 9,.mv (.t 33),none,[]⟩] [4,7,8,9]) (.seq (.ops [⟨some 34,.mv (.t 9),none,[]⟩,⟨some 35,.mv (.t 34),none,[]⟩,⟨some 36,.fad (.t 4) 12,some (35,true),[4]⟩,⟨some 37,.load 1 false (.t 36),some (35,true),[4]⟩,⟨some 38,.mv (.t 7),some (35,true),[]⟩,⟨some 39,.bin .leq (.t 37) (.t 38),some (35,true),[]⟩,⟨some 40,.pick (.t 35) (.t 39) (.c (.bool false)),none,[]⟩,⟨some 41,.mv (.t 40),none,[]⟩,⟨some 42,.mv (.t 8),some (41,true),[]⟩,⟨some 43,.fad (.t 4) 13,some (41,true),[4]⟩,⟨some 44,.load 1 false (.t 43),some (41,true),[4]⟩,⟨some 45,.bin .leq (.t 42) (.t 44),some (41,true),[]⟩,⟨some 46,.pick (.t 41) (.t 45) (.c (.bool false)),none,[]⟩,⟨some 6,.mv (.t 46),none,[]⟩] [6]) .ret)) (.seq (.ops [⟨some 48,.bin .eql (.t 22) (.c (.int .i64 2)),none,[]⟩,⟨some 47,.mv (.t 48),none,[]⟩] [3,4,5,47]) (.cond (.t 47) (.seq (.ops [⟨some 50,.load 6 true (.t 3),none,[3]⟩,⟨some 51,.fad (.t 4) 1,none,[4]⟩,⟨some 52,.load 1 false (.t 51),none,[4]⟩,⟨some 53,.load 10 true (.t 5),none,[5]⟩,⟨some 54,.call 110 [.t 50,.t 52,.t 53],none,[]⟩,⟨some 49,.mv (.t 54),none,[]⟩,⟨some 55,.ext (.t 49) 0,none,[]⟩,⟨some 56,.ext (.t 49) 1,none,[]⟩,⟨some 10,.mv (.t 55),none,[]⟩,⟨some 11,.mv (.t 56),none,[]⟩] [10,11]) (.seq (.ops [⟨some 57,.mv (.t 11),none,[]⟩,⟨some 58,.mv (.t 57),none,[]⟩,⟨some 59,.mv (.t 10),some (58,true),[]⟩,⟨some 60,.bin .gtr (.t 59) (.c (.int .i64 0)),some (58,true),[]⟩,⟨some 61,.pick (.t 58) (.t 60) (.c (.bool false)),none,[]⟩,⟨some 6,.mv (.t 61),none,[]⟩] [6]) .ret)) .skip)))))) (.seq (.seq (.ops [⟨some 62,.load 17 true (.t 4),none,[4]⟩,⟨some 63,.load 10 true (.t 5),none,[5]⟩,⟨some 64,.call 111 [.t 62,.t 63],none,[]⟩,⟨some 65,.un .not (.t 64),none,[]⟩] [3,4,5,65]) (.cond (.t 65) (.seq (.ops [⟨some 6,.mv (.c (.bool true)),none,[]⟩] [6]) .ret) .skip)) (.seq (.ops [⟨some 67,.load 6 true (.t 3),none,[3]⟩,⟨some 68,.load 17 true (.t 4),none,[4]⟩,⟨some 69,.load 10 true (.t 5),none,[5]⟩,⟨some 70,.call 112 [.t 67,.t 68,.t 69],none,[]⟩,⟨some 66,.mv (.t 70),none,[]⟩,⟨some 71,.ext (.t 66) 0,none,[]⟩,⟨some 72,.ext (.t 66) 1,none,[]⟩,⟨some 73,.ext (.t 66) 2,none,[]⟩,⟨some 12,.mv (.t 71),none,[]⟩,⟨some 13,.mv (.t 72),none,[]⟩,⟨some 14,.mv (.t 73),none,[]⟩] [4,12,13,14]) (.seq (.seq (.ops [⟨some 74,.fad (.t 4) 15,none,[4]⟩,⟨some 75,.load 1 false (.t 74),none,[4]⟩] [12,13,14,75]) (.cond (.t 75) (.seq (.ops [⟨some 76,.mv (.t 14),none,[]⟩,⟨some 77,.mv (.t 76),none,[]⟩,⟨some 78,.mv (.t 13),some (77,true),[]⟩,⟨some 79,.bin .leq (.t 78) (.c (.int .i64 0)),some (77,true),[]⟩,⟨some 80,.pick (.t 77) (.t 79) (.c (.bool false)),none,[]⟩,⟨some 6,.mv (.t 80),none,[]⟩] [6]) .ret) .skip)) (.seq (.ops [⟨some 81,.mv (.t 14),none,[]⟩,⟨some 82,.mv (.t 81),none,[]⟩,⟨some 83,.mv (.t 12),some (82,true),[]⟩,⟨some 84,.bin .geq (.t 83) (.c (.int .i64 0)),some (82,true),[]⟩,⟨some 85,.pick (.t 82) (.t 84) (.c (.bool false)),none,[]⟩,⟨some 6,.mv (.t 85),none,[]⟩] [6]) .ret)))))))
theorem r65_47:type_of% (rr c65_47.eq_1):=rr rfl
def a65:AFun:=⟨3,86,c65_47,[.t 6]⟩
attribute [simp] r65_47
theorem m65:mFun Tryz.prog Tryz.f65 a65=true:=by decide +kernel
def c67_25:ACode:=.seq (.ops [⟨some 3,.box (.t 0) 6,none,[]⟩,⟨some 4,.box (.t 1) 17,none,[]⟩,⟨some 5,.box (.t 2) 10,none,[]⟩,⟨some 6,.mv (.c (.int .i64 0)),none,[]⟩,⟨some 7,.mv (.c (.int .i64 0)),none,[]⟩,⟨some 8,.mv (.c (.bool false)),none,[]⟩] [3,4,5]) (.seq (.seq (.ops [⟨some 11,.mv (.c (.int .i64 0)),none,[]⟩] [3,4,5,11]) (.block 0 (.loop (.keep [3,4,5,11] [3,4,5] (.seq (.ops [⟨some 12,.bin .lss (.t 11) (.c (.int .i64 5)),none,[]⟩] [3,4,5,11,12]) (.seq (.cond (.t 12) .skip (.exit 0)) (.seq (.block 1 (.seq (.ops [⟨some 13,.mv (.t 11),none,[]⟩,⟨some 9,.mv (.t 13),none,[]⟩] [3,4,5,9,11]) (.seq (.ops [⟨some 14,.load 6 true (.t 3),none,[3]⟩,⟨some 15,.load 17 true (.t 4),none,[4]⟩,⟨some 16,.load 10 true (.t 5),none,[5]⟩,⟨some 17,.mv (.t 9),none,[]⟩,⟨some 18,.call 54 [.t 14,.t 15,.t 16,.t 17],none,[]⟩,⟨some 10,.mv (.t 18),none,[]⟩] [3,4,5,9,10,11]) (.seq (.ops [⟨some 19,.mv (.t 10),none,[]⟩,⟨some 20,.len (.t 19),none,[]⟩,⟨some 21,.bin .gtr (.t 20) (.c (.int .i64 0)),none,[]⟩] [3,4,5,9,10,11,21]) (.cond (.t 21) (.seq (.ops [⟨some 22,.mv (.t 9),none,[]⟩,⟨some 23,.mv (.t 10),none,[]⟩,⟨some 24,.mv (.t 10),none,[]⟩,⟨some 25,.len (.t 24),none,[]⟩,⟨some 26,.bin .sub (.t 25) (.c (.int .i64 1)),none,[]⟩,⟨some 27,.bin .quo (.t 26) (.c (.int .i64 2)),none,[]⟩,⟨some 28,.ias (.t 23) (.t 27) 1,none,[]⟩,⟨some 29,.load 1 false (.t 28),none,[]⟩,⟨some 6,.mv (.t 22),none,[]⟩,⟨some 7,.mv (.t 29),none,[]⟩,⟨some 8,.mv (.c (.bool true)),none,[]⟩] [6,7,8]) .ret) .skip))))) (.ops [⟨some 30,.bin .add (.t 11) (.c (.int .i64 1)),none,[]⟩,⟨some 11,.mv (.t 30),none,[]⟩] [3,4,5,11])))))))) (.seq (.ops [⟨some 6,.mv (.c (.int .i64 0)),none,[]⟩,⟨some 7,.mv (.c (.int .i64 0)),none,[]⟩,⟨some 8,.mv (.c (.bool false)),none,[]⟩] [6,7,8]) .ret))
theorem r67_25:type_of% (rr c67_25.eq_1):=rr rfl
def a67:AFun:=⟨3,31,c67_25,[.t 6,.t 7,.t 8]⟩
attribute [simp] r67_25
theorem m67:mFun Tryz.prog Tryz.f67 a67=true:=by decide +kernel
def c66_3:ACode:=.seq (.ops [⟨some 1,.box (.t 0) 10,none,[]⟩,⟨some 2,.alloc [.int .i64 0,.int .i64 0,.int .i64 0,.int .i64 0],none,[]⟩,⟨some 3,.mv (.c (.int .i64 0)),none,[]⟩] [1,2]) (.seq (.ops [⟨some 4,.load 10 true (.t 1),none,[1]⟩,⟨some 5,.call 48 [.t 4],none,[]⟩,⟨some 6,.iad (.t 1) (.c (.int .i64 4)) 2 5,none,[1]⟩,⟨some 7,.fad (.t 6) 1,none,[1]⟩,⟨some 8,.load 1 false (.t 7),none,[1]⟩,⟨none,.store (.t 2) 4 (.t 5),none,[2]⟩,⟨some 3,.mv (.t 8),none,[]⟩] [2,3]) .ret)
theorem r66_3:type_of% (rr c66_3.eq_1):=rr rfl
def a66:AFun:=⟨1,9,c66_3,[.cell 2 4 true,.t 3]⟩
attribute [simp] r66_3
theorem m66:mFun Tryz.prog Tryz.f66 a66=true:=by decide +kernel
def Same (m:Model) (p o:Point):Prop:=∀ j,0≤j→j<4→∀ t∈thrL m j,(p.get j≤t↔o.get j≤t)
theorem same_value {m:Model} (hm:RM m) {p o:Point} (h:Same m p o) {t:Tree} (ht:t∈m.trees):valueAt t.nodes p=valueAt t.nodes o:=by
 have hr:=hm.rt ht
 unfold valueAt leafOf
 rw[walk_same hr (fun i hi hl=>?_) 31 0 hr.pos]
 have hf:=hr.feature hi hl
 exact h _ hf.1 hf.2 _ (mem_thr.2 ⟨t,ht,t.nodes[i],List.getElem_mem hi,by rw[← ndAt_lt hi];exact hl,by rw[← ndAt_lt hi],by rw[← ndAt_lt hi]⟩)
theorem same_cell {m:Model} {q:Query} {x:Box} (hn:∀ i:Int,0≤i→i<5→cutsL m q x i=[]) {p o:Point} {t u:Int} (hp:InB x p t) (ho:InB x o u):Same m p o:=by
 intro j j0 j4
 have h1:=(inB_get.1 hp j j0 j4).1
 have h2:=(inB_get.1 ho j j0 j4).1
 have:=uncut (hn j j0 (by omega)) (by rw[featOf_lt q j0 j4];omega) h1 h2
 rwa [featOf_lt q j0 j4] at this
theorem same_second {m:Model} {q:Query} (hpr:paired q=true) {x:Box} (hn:∀ i:Int,0≤i→i<5→cutsL m q x i=[]) {p o:Point} {t u:Int} (hp:InB x p t) (ho:InB x o u):Same m (p.set q.feature t) (o.set q.feature u):=by
 have hf:0≤q.feature∧q.feature<4:=by have:=paired_feature hpr;omega
 have hk:q.kind=3:=by unfold paired at hpr;simp at hpr;omega
 intro j j0 j4
 rw[point_set_get p t hf.1 hf.2 j0 j4,point_set_get o u hf.1 hf.2 j0 j4]
 by_cases e:j=q.feature
 ·rw[if_pos e,if_pos e]
  have f4:featOf q 4=q.feature:=by unfold featOf;rw[if_neg (by omega),if_pos ⟨rfl,hk⟩]
  have:=uncut (hn 4 (by omega) (by omega)) (by rw[f4];omega) (n:=t) (o:=u) hp.2.2.2.2 ho.2.2.2.2
  rwa [f4,← e] at this
 ·rw[if_neg e,if_neg e]
  exact same_cell hn hp ho j j0 j4
theorem flat_fold {c:Int} {b:Box} {p:Point} {t0:Int} (hb:b.empty=false):∀(l:List Tree) (s:Int),(∀ t∈l,∃ d,RT t.nodes d)→(∀ t∈l,∀ q u,InB b q u→valueAt t.nodes q=valueAt t.nodes p) →
  l.foldl (boundF c b) (s,s)=(l.foldl (evalF c p) s,l.foldl (evalF c p) s)
 | [],s,_,_=>rfl
 | t::l,s,h,h1=>by
  obtain⟨d,hd⟩:=h t (by simp)
  obtain⟨_,_,⟨p',t',hp',h3⟩,⟨q,u,hq,h4⟩⟩:=boundT_spec hd hb
  rw[h1 t (by simp) p' t' hp'] at h3
  rw[h1 t (by simp) q u hq] at h4
  rw[List.foldl_cons,List.foldl_cons]
  have e:boundF c b (s,s) t=(evalF c p s t,evalF c p s t):=by
   unfold boundF evalF
   rw[← h3,← h4]
   split<;>rfl
  rw[e]
  exact flat_fold (t0:=t0) hb l _ (fun t ht=>h t (by simp[ht])) (fun t ht=>h1 t (by simp[ht]))
theorem bound_flat {m:Model} (hm:RM m) (c:Int) {b:Box} (hb:b.empty=false) {p:Point} (h:∀ q u,InB b q u→Same m q p):boundP m c b=(evalM m c p,evalM m c p) :=
 flat_fold (t0:=0) hb m.trees _ (fun t ht=>⟨_,hm.rt ht⟩) fun t ht q u hq=>same_value hm (h q u hq) ht
def ahead (m:Model) (c:Int) (b:Box):Prop:=∀ o:Int,0≤o→o<m.classes→o≠c→0<marD m c b o
theorem margin_pos {m:Model} {c:Int} {b:Box} (h0:0≤c) (h1:c<m.classes) (h2:m.classes=2∨m.classes=3):0<margin m c b↔ahead m c b:=by
 unfold margin ahead
 have hm2:=min2_le (a:=marD m c b (other1 c)) (b:=marD m c b (other2 c))
 rcases h2 with e|e
 ·rw[if_pos e]
  have hc:c=0∨c=1:=by omega
  constructor
  ·intro h o o0 o1 oc
   have:o=other1 c:=by unfold other1;split<;>omega
   rw[this];exact h
  ·intro h
   exact h _ (by unfold other1;split<;>omega) (by unfold other1;split<;>omega) (by unfold other1;split<;>omega)
 ·rw[if_neg (by omega)]
  have hc:c=0∨c=1∨c=2:=by omega
  constructor
  ·intro h o o0 o1 oc
   have:o=other1 c∨o=other2 c:=by unfold other1 other2;split<;>split<;>omega
   rcases this with e2|e2<;>rw[e2]<;>omega
  ·intro h
   have k1:=h (other1 c) (by unfold other1;split<;>omega) (by unfold other1;split<;>omega) (by unfold other1;split<;>omega)
   have k2:=h (other2 c) (by unfold other2;split<;>omega) (by unfold other2;split<;>omega) (by unfold other2;split<;>omega)
   omega
def closedM (m:Model) (q:Query) (b:Box):Bool :=
 if okQuery m q=false then false else if b.empty then true else
 if q.kind=1 then (boundM m q.cls b).c&&decide (q.lo≤(boundM m q.cls b).a)&&decide ((boundM m q.cls b).b≤q.hi) else
 if q.kind=2 then decide (0<margin m q.cls b) else
 if orderedB q b then (changeM m q b).c&&(if q.falls then decide ((changeM m q b).b≤0) else decide (0≤(changeM m q b).a)) else true
def Shown (m:Model) (q:Query) (b:Box):Prop :=
 (q.kind=1∧q.lo≤(boundP m q.cls b).1∧(boundP m q.cls b).2≤q.hi)∨(q.kind=2∧ahead m q.cls b) ∨
 (q.kind=3∧((b.get q.feature).lo<b.s4.hi→(if q.falls then (changeM m q b).b≤0 else 0≤(changeM m q b).a)))
theorem closed_iff {m:Model} (hm:RM m) {q:Query} (hq:okQuery m q=true) {b:Box} (hb:b.empty=false):closedM m q b=true↔Shown m q b:=by
 have hs:=okQuery_spec hq
 have hk:=okKind_spec hs.2.2.2.2.2
 have hcl:=hm.classes
 have hd:=hm.dim
 unfold closedM Shown
 rw[if_neg (by simp[hq]),if_neg (by simp[hb])]
 have hB:boundM m q.cls b=⟨(boundP m q.cls b).1,(boundP m q.cls b).2,true⟩:=by unfold boundM;rw[if_neg (by simp[hb];omega)]
 rcases hk with⟨k,_⟩|⟨k,k2,_⟩|⟨k,f0,f1,_⟩
 ·rw[if_pos k,hB]
  simp[k]
 ·rw[if_neg (by omega),if_pos k,decide_eq_true_eq,margin_pos hs.1 hs.2.1 (by omega)]
  simp[k]
 ·have hp:paired q=true:=by unfold paired;simp;omega
  have ho:orderedB q b=decide ((b.get q.feature).lo<b.s4.hi):=by unfold orderedB;rw[hp,hb];rfl
  have hc:(changeM m q b).c=true:=by rw[change_some hp hs.1 hs.2.1 hb]
  rw[if_neg (by omega),if_neg (by omega),ho,hc]
  by_cases h:(b.get q.feature).lo<b.s4.hi
  ·cases hf:q.falls<;>simp[k,h]
  ·simp[k,h]
theorem marD_sound {m:Model} (hm:RM m) {b:Box} {p:Point} {t:Int} (hp:InB b p t) (c o:Int):marD m c b o≤evalM m c p-evalM m o p:=by
 have h1:=bound_sound hm c hp
 have h2:=bound_sound hm o hp
 unfold marD
 omega
theorem unbeaten_iff {m:Model} {q:Query} {p:Point}:beaten m q p=false↔∀ o:Int,0≤o→o<m.classes→o≠q.cls→evalM m o p<evalM m q.cls p:=by
 unfold beaten
 rw[List.any_eq_false]
 constructor
 ·intro h o h0 h1 hc
  have:=h o.toNat (by rw[List.mem_range];omega)
  rw[show ((o.toNat:Nat):Int)=o by omega] at this
  simp[hc] at this
  exact this
 ·intro h x hx
  rw[List.mem_range] at hx
  by_cases e:(x:Int)=q.cls
  ·simp[e]
  ·have:=h x (by omega) (by omega) e
   simp[e]
   exact this
theorem closed_sound {m:Model} (hm:RM m) {q:Query} {b:Box} (h:closedM m q b=true) {p:Point} {t:Int} (hp:InB b p t):breaks m q p t=false:=by
 have hb:b.empty=false:=empty_false.2 ⟨p,t,hp⟩
 cases hq:okQuery m q
 ·unfold breaks;rw[hq];rfl
 rw[closed_iff hm hq hb] at h
 have hs:=okQuery_spec hq
 have hk:=okKind_spec hs.2.2.2.2.2
 have hd:=hm.dim
 unfold breaks
 rw[hq]
 simp only[if_true]
 rcases h with⟨k,h1,h2⟩|⟨k,h1⟩|⟨k,h1⟩
 ·rw[if_pos k]
  have:=bound_sound hm q.cls hp
  simp[Span.has]
  omega
 ·rw[if_neg (by omega),if_pos k,unbeaten_iff]
  intro o o0 o1 oc
  have k1:=h1 o o0 o1 oc
  have k2:=marD_sound hm hp q.cls o
  omega
 ·rw[if_neg (by omega),if_neg (by omega)]
  have hf:0≤q.feature∧q.feature<m.dim:=by omega
  have hpr:paired q=true:=by unfold paired;simp;omega
  by_cases hlt:p.get q.feature<t
  ·rw[if_pos hlt]
   have h2:=(inB_get.1 hp q.feature hf.1 (by omega)).1
   have h3:InS b.s4 t:=hp.2.2.2.2
   unfold InS at h2 h3
   have h1:=h1 (by omega)
   have hc:=change_sound hm hpr hs.1 hs.2.1 hp
   have hse:secondOf q p t=p.set q.feature t:=by unfold secondOf;rw[if_pos hpr]
   rw[hse]
   cases hfa:q.falls
   ·rw[hfa] at h1
    simp at h1 ⊢
    omega
   ·rw[hfa] at h1
    simp at h1 ⊢
    omega
  ·rw[if_neg hlt]
theorem low_get {x:Box} {k:Int} (h0:0≤k) (h4:k<4):(lowB x).get k=(x.get k).lo:=by
 have:k=0∨k=1∨k=2∨k=3:=by omega
 rcases this with rfl|rfl|rfl|rfl<;>rfl
theorem closed_uncut {m:Model} (hm:RM m) {q:Query} (hq:okQuery m q=true) {b:Box} (hb:b.empty=false) (hn:∀ i:Int,0≤i→i<5→cutsL m q b i=[]):closedM m q b = !(corner m q b):=by
 have hs:=okQuery_spec hq
 have hk:=okKind_spec hs.2.2.2.2.2
 have hd:=hm.dim
 have hl:=low_in hb
 have hF:∀ c,boundP m c b=(evalM m c (lowB b),evalM m c (lowB b)):=fun c=>bound_flat hm c hb fun p t hp=>same_cell hn hp hl
 have key:closedM m q b=true↔corner m q b=false:=by
  rw[closed_iff hm hq hb]
  unfold Shown corner breaks ahead marD
  rw[hq]
  simp only[hF,if_true]
  rcases hk with⟨k,_⟩|⟨k,k2,_⟩|⟨k,f0,f1,_⟩
  ·rw[if_pos k]
   simp[k,Span.has]
  ·rw[if_neg (show ¬ q.kind=1 by omega),if_pos k,unbeaten_iff]
   constructor
   ·rintro (⟨k',_⟩|⟨_,h⟩|⟨k',_⟩)
    ·omega
    ·intro o o0 o1 oc
     have:=h o o0 o1 oc
     omega
    ·omega
   ·intro h
    refine .inr (.inl ⟨k,fun o o0 o1 oc=>?_⟩)
    have:=h o o0 o1 oc
    omega
  ·have hpr:paired q=true:=by unfold paired;simp;omega
   have f1':q.feature<4:=by omega
   rw[if_neg (show ¬ q.kind=1 by omega),if_neg (show ¬ q.kind=2 by omega),low_get f0 f1']
   have e1:boundP m q.cls (firstB q b)=(evalM m q.cls (lowB b),evalM m q.cls (lowB b)):=bound_flat hm _ (first_some hpr hb) fun p t hp=>by
    obtain⟨_,k0,k1,k2,k3⟩:=(first_in hpr).1 hp
    exact same_cell hn (t:=b.s4.hi) ⟨k0,k1,k2,k3,hl.2.2.2.2⟩ hl
   have e2:boundP m q.cls (secondB q b)=(evalM m q.cls ((lowB b).set q.feature b.s4.hi),evalM m q.cls ((lowB b).set q.feature b.s4.hi)):=bound_flat hm _ (second_some hpr hb) fun p t hp=>by
    obtain⟨_,p',t',hp',rfl⟩:=second_back hpr hb hp
    exact same_second hpr hn hp' hl
   have hse:secondOf q (lowB b) b.s4.hi=(lowB b).set q.feature b.s4.hi:=by unfold secondOf;rw[if_pos hpr]
   rw[change_some hpr hs.1 hs.2.1 hb,e1,e2,hse]
   by_cases hlt:(b.get q.feature).lo<b.s4.hi
   ·cases hfa:q.falls
    ·simp[k,hlt]
    ·simp[k,hlt]
     omega
   ·simp[k,hlt]
 cases hc:corner m q b
 ·rw[key.2 hc];rfl
 ·cases hcl:closedM m q b
  ·rfl
  ·rw[key.1 hcl] at hc;cases hc
noncomputable def ClosedC (m:Model) (q:Query) (b:Box):Option Bool:=Part (RM m∧okB b) (closedM m q b)
theorem runs_Closed (m:Model) (q:Query) (b:Box) (r:Bool) (h:ClosedC m q b=some r):Runs (tbl [(40,sp2 QRight),(52,sp1 fun (b:Box)=>some b.empty),(109,sp3 BoundS),(110,sp3 MarginC),(111,sp2 fun q b=>some (orderedB q b)),(112,sp3 ChangeC)]) a65 [Arg.enc m,Arg.enc q,Arg.enc b] (Arg.enc r):=by
 obtain⟨⟨hm,hb⟩,rfl⟩:=part_some h
 clear h
 refine⟨rfl,fun g=>run_def ?_⟩
 unfold a65 closedM
 have hM:QRight m q=some (okQuery m q):=by unfold QRight;rw[if_neg (by have:=hm.dim;omega)];exact part_of hm _
 cases hq:okQuery m q
 case false=>simp -implicitDefEqProofs [hM,hq]
 cases he:b.empty
 case true=>simp -implicitDefEqProofs [hM,hq,he]
 have hs:=okQuery_spec hq
 have hk:=okKind_spec hs.2.2.2.2.2
 have hS:BoundS m q.cls b=some (boundM m q.cls b):=part_of ⟨hm,hb⟩ _
 have hC:ChangeC m q b=some (changeM m q b):=part_of ⟨hm,hb⟩ _
 have hG:2≤m.classes→MarginC m q.cls b=some (margin m q.cls b,true):=fun h=>by
  unfold MarginC
  rw[part_of ⟨hm,hb⟩,if_neg (by simp[he];omega)]
 generalize boundM m q.cls b=z at *
 generalize changeM m q b=y at *
 obtain⟨z1,z2,z3⟩:=z
 obtain⟨y1,y2,y3⟩:=y
 obtain⟨kind,cls,region,lo,hi,feature,falls,budget⟩:=q
 simp only at *
 by_cases k1:kind=1
 ·subst k1
  cases z3
  ·simp -implicitDefEqProofs [hM,hq,he,hS]
  ·by_cases c1:lo≤z1
   ·simp -implicitDefEqProofs [hM,hq,he,hS,c1]
   ·simp -implicitDefEqProofs [hM,hq,he,hS,c1]
 by_cases k2:kind=2
 ·subst k2
  have hG:=hG (by omega)
  simp -implicitDefEqProofs [hM,hq,he,hG]
 cases ho:orderedB ⟨kind,cls,region,lo,hi,feature,falls,budget⟩ b
 ·simp -implicitDefEqProofs [hM,hq,he,k1,k2,ho]
 cases falls<;>cases y3<;>simp -implicitDefEqProofs [hM,hq,he,k1,k2,ho,hC]
theorem c_Closed:Contract Tryz.prog 65 (sp3 ClosedC) :=
 contract_of_runs mixed (tbl_cons c_qRight (tbl_cons c_bEmpty (tbl_cons c_bSum (tbl_cons c_Margin (tbl_cons c_Ordered (tbl_cons c_Change tbl_nil)))))) Tryz.func65 m65 (sp3_runs runs_Closed)
theorem runs_gCorner (b:Box) (r:Point×Int) (h:some (lowB b,b.s4.hi)=some r):Runs (tbl [(48,sp1 fun b=>some (lowB b))]) a66 [Arg.enc b] (Arg.enc r):=by
 cases h
 refine⟨rfl,fun g=>run_def ?_⟩
 unfold a66
 simp -implicitDefEqProofs []
theorem c_gCorner:Contract Tryz.prog 66 (sp1 fun b=>some (lowB b,b.s4.hi)) :=
 contract_of_runs mixed (tbl_cons c_Low tbl_nil) Tryz.func66 m66 (sp1_runs runs_gCorner)
def midL (l:List Int):Int:=l.getD ((l.length-1)/2) 0
def splitFrom (m:Model) (q:Query) (b:Box):List Int→Tri Int Int Bool
 | []=>⟨0,0,false⟩
 | k::ks=>if cutsL m q b k=[] then splitFrom m q b ks else ⟨k,midL (cutsL m q b k),true⟩
def splitM (m:Model) (q:Query) (b:Box):Tri Int Int Bool:=splitFrom m q b [0,1,2,3,4]
theorem splitFrom_spec (m:Model) (q:Query) (b:Box):∀(ks:List Int),((splitFrom m q b ks).c=false∧splitFrom m q b ks=⟨0,0,false⟩∧∀ k∈ks,cutsL m q b k=[]) ∨
  ∃(l r:List Int) (k:Int),ks=l++k::r∧cutsL m q b k≠[]∧(∀ i∈l,cutsL m q b i=[])∧splitFrom m q b ks=⟨k,midL (cutsL m q b k),true⟩
 | []=>.inl ⟨rfl,rfl,fun k hk=>by simp at hk⟩
 | k::ks=>by
  unfold splitFrom
  by_cases h:cutsL m q b k=[]
  ·rw[if_pos h]
   rcases splitFrom_spec m q b ks with⟨h1,h2,h3⟩|⟨l,r,j,h1,h2,h3,h4⟩
   ·exact .inl ⟨h1,h2,fun i hi=>by
     rcases List.mem_cons.1 hi with rfl|hi
     ·exact h
     ·exact h3 i hi⟩
   ·exact .inr ⟨k::l,r,j,by rw[h1];rfl,h2,fun i hi=>by
     rcases List.mem_cons.1 hi with rfl|hi
     ·exact h
     ·exact h3 i hi,h4⟩
  ·rw[if_neg h]
   exact .inr ⟨[],ks,k,rfl,h,fun i hi=>by simp at hi,rfl⟩
noncomputable def SplitC (m:Model) (q:Query) (b:Box):Option (Tri Int Int Bool):=Part (RM m) (splitM m q b)
theorem runs_Split (m:Model) (q:Query) (b:Box) (r:Tri Int Int Bool) (h:SplitC m q b=some r):Runs (tbl [(54,sp4 CutsC)]) a67 [Arg.enc m,Arg.enc q,Arg.enc b] (Arg.enc r):=by
 obtain⟨hm,rfl⟩:=part_some h
 clear h
 refine⟨rfl,fun g=>run_def ?_⟩
 unfold a67 splitM
 have hK:∀ i:Int,0≤i→i≤4→CutsC m q b i=some (cutsL m q b i):=fun i i0 i5=>part_of ⟨hm,.inr ⟨i0,i5⟩⟩ _
 have hL:∀ i,(cutsL m q b i).length≤248:=fun i=>by rw[cutsL_len];exact cutN_le hm q b i
 have fin:∀(l:List Int),l.length≤248→l≠[]→0<l.length∧l.length≤maxN∧IntKind.i64.wrap ((l.length:Int)-1)=((l.length-1:Nat):Int)∧∃ x:Nat,IntKind.i64.wrap (((l.length-1:Nat):Int)/2)=(x:Int)∧x<l.length∧rd (encL l) x 1 false=some (.int .i64 (midL l)):=by
  intro l hl hne
  have hp:0<l.length:=List.length_pos_iff.2 hne
  have hlt:(l.length-1)/2<l.length:=by omega
  refine⟨by omega,by unfold maxN;omega, ?_,(l.length-1)/2, ?_,hlt, ?_⟩
  ·rw[show (l.length:Int)-1=((l.length-1:Nat):Int) by omega]
   exact wrap64 (by omega) (by omega)
  ·rw[show ((l.length-1:Nat):Int)/2=(((l.length-1)/2:Nat):Int) by omega]
   exact wrap64 (by omega) (by omega)
  ·rw[rd_ints l _ hlt]
   unfold midL
   simp[hlt]
 have K0:=hK 0 (by omega) (by omega)
 have K1:=hK 1 (by omega) (by omega)
 have K2:=hK 2 (by omega) (by omega)
 have K3:=hK 3 (by omega) (by omega)
 have K4:=hK 4 (by omega) (by omega)
 have L0:=fin _ (hL 0)
 have L1:=fin _ (hL 1)
 have L2:=fin _ (hL 2)
 have L3:=fin _ (hL 3)
 have L4:=fin _ (hL 4)
 clear hK hL fin
 unfold splitFrom splitFrom splitFrom splitFrom splitFrom splitFrom
 generalize cutsL m q b 0=l0 at *
 generalize cutsL m q b 1=l1 at *
 generalize cutsL m q b 2=l2 at *
 generalize cutsL m q b 3=l3 at *
 generalize cutsL m q b 4=l4 at *
 by_cases h0:l0=[]
 case neg =>
  obtain⟨a1,a2,a3,x,a4,a5,a6⟩:=L0 h0
  simp -implicitDefEqProofs [run_round,K0,h0,a1,a2,a3,a4,a5,a6,encL_nil]
 subst h0
 by_cases h1:l1=[]
 case neg =>
  obtain⟨a1,a2,a3,x,a4,a5,a6⟩:=L1 h1
  simp -implicitDefEqProofs [run_round,K0,K1,h1,a1,a2,a3,a4,a5,a6,encL_nil]
 subst h1
 by_cases h2:l2=[]
 case neg =>
  obtain⟨a1,a2,a3,x,a4,a5,a6⟩:=L2 h2
  simp -implicitDefEqProofs [run_round,K0,K1,K2,h2,a1,a2,a3,a4,a5,a6,encL_nil]
 subst h2
 by_cases h3:l3=[]
 case neg =>
  obtain⟨a1,a2,a3,x,a4,a5,a6⟩:=L3 h3
  simp -implicitDefEqProofs [run_round,K0,K1,K2,K3,h3,a1,a2,a3,a4,a5,a6,encL_nil]
 subst h3
 by_cases h4:l4=[]
 case neg =>
  obtain⟨a1,a2,a3,x,a4,a5,a6⟩:=L4 h4
  simp -implicitDefEqProofs [run_round,K0,K1,K2,K3,K4,h4,a1,a2,a3,a4,a5,a6,encL_nil]
 subst h4
 simp -implicitDefEqProofs [run_round,K0,K1,K2,K3,K4,encL_nil]
theorem c_Split:Contract Tryz.prog 67 (sp3 SplitC) :=
 contract_of_runs mixed (tbl_cons c_Cuts tbl_nil) Tryz.func67 m67 (sp3_runs runs_Split)
end Go.Co
/- CO: a part of a box, by numbers. -/
namespace Go.Co
open Go.Am Go.Proofs
attribute [-simp] Go.Am.eff_gcall
theorem rd_nlo (b:Box) (i:Nat) (h:i<5):rd [.int .i64 b.s0.lo,.int .i64 b.s0.hi,.int .i64 b.s1.lo,.int .i64 b.s1.hi,.int .i64 b.s2.lo,.int .i64 b.s2.hi,.int .i64 b.s3.lo,.int .i64 b.s3.hi,.int .i64 b.s4.lo,.int .i64 b.s4.hi] (i*2) 1 false=some (.int .i64 (b.get i).lo):=by
 have hf:i=0∨i=1∨i=2∨i=3∨i=4:=by omega
 rcases hf with rfl|rfl|rfl|rfl|rfl<;>rfl
theorem rd_nhi (b:Box) (i:Nat) (h:i<5):rd [.int .i64 b.s0.lo,.int .i64 b.s0.hi,.int .i64 b.s1.lo,.int .i64 b.s1.hi,.int .i64 b.s2.lo,.int .i64 b.s2.hi,.int .i64 b.s3.lo,.int .i64 b.s3.hi,.int .i64 b.s4.lo,.int .i64 b.s4.hi] (i*2+1) 1 false=some (.int .i64 (b.get i).hi):=by
 have hf:i=0∨i=1∨i=2∨i=3∨i=4:=by omega
 rcases hf with rfl|rfl|rfl|rfl|rfl<;>rfl
structure PartOk (b x:Box):Prop where
 some:x.empty=false
 sub:∀ i:Int,0≤i→i<5→(b.get i).lo≤(x.get i).lo∧(x.get i).hi≤(b.get i).hi
theorem PartOk.set {b x:Box} (h:PartOk b x) {i:Nat} (hi:i<5) {s:Span} (h1:s.lo≤s.hi) (h2:(x.get i).lo≤s.lo) (h3:s.hi≤(x.get i).hi):PartOk b (x.set i s):=by
 refine⟨empty_get.2 fun j j0 j5=>?_,fun j j0 j5=>?_⟩
 ·rw[set_get_ite x s (by omega) (by omega) j0 j5]
  split
  ·exact h1
  ·exact get_spans h.some j
 ·rw[set_get_ite x s (by omega) (by omega) j0 j5]
  have:=h.sub j j0 j5
  split
  ·rename_i e;subst e;omega
  ·exact this
theorem PartOk.small {b x:Box} (h:PartOk b x) (hb:smallB b):smallB x:=by
 have key:∀ i:Int,0≤i→i<5→Co.small (x.get i):=fun i i0 i5=>by
  have h1:=get_small hb i
  have h2:=h.sub i i0 i5
  have h3:=get_spans h.some i
  unfold Co.small at *
  omega
 exact⟨key 0 (by omega) (by omega),key 1 (by omega) (by omega),key 2 (by omega) (by omega),key 3 (by omega) (by omega),key 4 (by omega) (by omega)⟩
theorem small_ok {b:Box} (h:smallB b) (he:b.empty=false):okB b:=by
 have key:∀ i:Int,0≤i→i<5→okS64 (b.get i):=fun i i0 i5=>by
  have h1:=get_small h i
  have h2:=get_spans he i
  unfold Co.small at h1
  unfold okS64 ok64
  omega
 exact⟨key 0 (by omega) (by omega),key 1 (by omega) (by omega),key 2 (by omega) (by omega),key 3 (by omega) (by omega),key 4 (by omega) (by omega)⟩
theorem cut_sub (b:Box) {k:Int} (h0:0≤k) (h5:k<5) (n:Int):(∀ p t,InB (cutB b k n).1 p t→InB b p t)∧(∀ p t,InB (cutB b k n).2 p t→InB b p t):=by
 unfold cutB
 rw[if_pos ⟨h0,h5⟩]
 constructor
 ·intro p t h
  rw[inB_pt] at h ⊢
  intro i i0 i5
  have:=h i i0 i5
  simp only at this
  rw[set_get_ite b _ h0 h5 i0 i5] at this
  split at this
  ·rename_i e
   subst e
   exact ((cutS_1 _ _ _).1 this).1
  ·exact this
 ·intro p t h
  rw[inB_pt] at h ⊢
  intro i i0 i5
  have:=h i i0 i5
  simp only at this
  rw[set_get_ite b _ h0 h5 i0 i5] at this
  split at this
  ·rename_i e
   subst e
   exact ((cutS_2 _ _ _).1 this).1
  ·exact this
end Go.Co
/- CO: the document's own cuts of a box, by a set that is gone through in whatever order. -/
namespace Go.Co
open Go.Am Go.Proofs
attribute [-simp] Go.Am.eff_gcall
def isCut (f:Int) (s:Span) (w:Word):Prop:=(nd w).leaf=false∧(nd w).feature=f∧s.lo≤(nd w).cut∧(nd w).cut<s.hi
instance (f:Int) (s:Span) (w:Word):Decidable (isCut f s w):=by unfold isCut;exact inferInstance
@[simp] theorem isIt_mp (b g:Nat) (l:List AV):isIt (.mp b g::l)=true:=rfl
end Go.Co
/- CO: the document's own answers: right queries, what breaks them (written by mkCoS.py). -/
namespace Go.Co
open Go.Am Go.Proofs
@[simp high] theorem rd_spanN (b:Box) (k:Nat) (h:k<5):rd [.int .i64 b.s0.lo,.int .i64 b.s0.hi,.int .i64 b.s1.lo,.int .i64 b.s1.hi,.int .i64 b.s2.lo,.int .i64 b.s2.hi,.int .i64 b.s3.lo,.int .i64 b.s3.hi,.int .i64 b.s4.lo,.int .i64 b.s4.hi] (k*2) 2 true=some (.agg [.int .i64 (b.get k).lo,.int .i64 (b.get k).hi]):=by
 have hf:k=0∨k=1∨k=2∨k=3∨k=4:=by omega
 rcases hf with rfl|rfl|rfl|rfl|rfl<;>rfl
end Go.Co
/- CO: the document's own answers: leaves and bounds. -/
namespace Go.Co
open Go.Am Go.Proofs
end Go.Co
/- CO: what breaks a query, by the document. -/
namespace Go.Co
open Go.Am Go.Proofs
end Go.Co
/- CO: what is shown, closed, where a box is cut: by the document. -/
namespace Go.Co
open Go.Am Go.Proofs
attribute [-simp] Go.Am.eff_gcall
def pairB (q:Query) (b:Box):Box:=if paired q then b.set q.feature b.s4 else b
theorem cutB_halves {b:Box} {k n:Int} (h0:0≤k) (h5:k<5) (h1:(b.get k).lo≤n) (h2:n<(b.get k).hi):cutB b k n=(b.set k ⟨(b.get k).lo,n⟩,b.set k ⟨n+1,(b.get k).hi⟩):=by
 unfold cutB cutS
 rw[if_pos ⟨h0,h5⟩,if_neg (by omega)]
 unfold ofS
 rw[show (if n+1>(b.get k).lo then n+1 else (b.get k).lo)=n+1 from if_pos (by omega),if_neg (by omega),if_neg (by omega)]
theorem boundT_pts {l:List Word} {dim:Int} (h:RT l dim) {a b:Box} (ha:a.empty=false) (hb:b.empty=false) (hp:∀ p,(∃ t,InB a p t)↔∃ t,InB b p t):(boundT l a).a=(boundT l b).a∧(boundT l a).b=(boundT l b).b:=by
 obtain⟨_,a1,⟨p1,t1,q1,v1⟩,p2,t2,q2,v2⟩:=boundT_spec h ha
 obtain⟨_,b1,⟨p3,t3,q3,v3⟩,p4,t4,q4,v4⟩:=boundT_spec h hb
 obtain⟨u1,r1⟩:=(hp p1).1 ⟨t1,q1⟩
 obtain⟨u2,r2⟩:=(hp p2).1 ⟨t2,q2⟩
 obtain⟨u3,r3⟩:=(hp p3).2 ⟨t3,q3⟩
 obtain⟨u4,r4⟩:=(hp p4).2 ⟨t4,q4⟩
 have x1:=b1 p1 u1 r1
 have x2:=b1 p2 u2 r2
 have x3:=a1 p3 u3 r3
 have x4:=a1 p4 u4 r4
 omega
theorem pts_fold {c:Int} {a b:Box} (ha:a.empty=false) (hb:b.empty=false) (hp:∀ p,(∃ t,InB a p t)↔∃ t,InB b p t):∀(l:List Tree) (x:Int×Int),(∀ t∈l,∃ d,RT t.nodes d)→l.foldl (boundF c a) x=l.foldl (boundF c b) x
 | [],_,_=>rfl
 | t::l,x,h=>by
  obtain⟨d,hd⟩:=h t (by simp)
  have:=boundT_pts hd ha hb hp
  have e:boundF c a x t=boundF c b x t:=by unfold boundF;rw[this.1,this.2]
  rw[List.foldl_cons,List.foldl_cons,e,pts_fold ha hb hp l _ fun y hy=>h y (by simp[hy])]
theorem boundP_pts {m:Model} (hm:RM m) (c:Int) {a b:Box} (ha:a.empty=false) (hb:b.empty=false) (hp:∀ p,(∃ t,InB a p t)↔∃ t,InB b p t):boundP m c a=boundP m c b :=
 pts_fold ha hb hp _ _ fun t ht=>⟨_,hm.rt ht⟩
def shownM (m:Model) (q:Query) (b:Box):Bool :=
 if q.kind=1 then decide (q.lo≤(boundP m q.cls b).1)&&decide ((boundP m q.cls b).2≤q.hi) else
 if q.kind=2 then (decide (0=q.cls)||decide ((boundP m 0 b).2<(boundP m q.cls b).1))&&(decide (1=q.cls)||decide ((boundP m 1 b).2<(boundP m q.cls b).1))&&(decide (m.classes=2)||decide (2=q.cls)||decide ((boundP m 2 b).2<(boundP m q.cls b).1)) else
 if b.s4.hi≤(b.get q.feature).lo then true else if q.falls then decide ((boundP m q.cls (pairB q b)).2≤(boundP m q.cls b).1) else decide ((boundP m q.cls b).2≤(boundP m q.cls (pairB q b)).1)
theorem pair_some {q:Query} {b:Box} (he:b.empty=false):(pairB q b).empty=false:=by
 unfold pairB
 by_cases hp:paired q=true
 ·rw[if_pos hp]
  have hf:=paired_feature hp
  have h4:=(empty_spec he).2.2.2.2
  rw[set_empty he q.feature b.s4 (by omega) (by omega)]
  exact h4
 ·rw[if_neg hp];exact he
theorem pair_pts {q:Query} (hp:paired q=true) {b:Box} (he:b.empty=false) (p:Point):(∃ t,InB (pairB q b) p t)↔∃ t,InB (secondB q b) p t:=by
 unfold pairB secondB
 rw[if_pos hp,if_pos hp]
 have h4:=(empty_spec he).2.2.2.2
 have hf:=paired_feature hp
 have e4:(b.set q.feature b.s4).s4=b.s4:=by rcases hf with hf|hf|hf|hf<;>rw[hf]<;>rfl
 constructor
 ·rintro⟨t,h0,h1,h2,h3,h4⟩
  exact⟨0,h0,h1,h2,h3,by unfold InS;simp⟩
 ·rintro⟨t,h0,h1,h2,h3,h4'⟩
  refine⟨b.s4.lo,h0,h1,h2,h3, ?_⟩
  rw[e4]
  unfold Span.empty at h4
  simp at h4
  unfold InS
  omega
theorem first_pts {q:Query} (hp:paired q=true) {b:Box} (he:b.empty=false) (p:Point):(∃ t,InB b p t)↔∃ t,InB (firstB q b) p t:=by
 have h4:=(empty_spec he).2.2.2.2
 unfold Span.empty at h4
 simp at h4
 constructor
 ·rintro⟨t,h0,h1,h2,h3,_⟩
  exact⟨0,(first_in hp).2 ⟨rfl,h0,h1,h2,h3⟩⟩
 ·rintro⟨t,h⟩
  obtain⟨_,h0,h1,h2,h3⟩:=(first_in hp).1 h
  exact⟨b.s4.lo,h0,h1,h2,h3,by unfold InS;omega⟩
theorem change_shown {m:Model} (hm:RM m) {q:Query} (hp:paired q=true) (h0:0≤q.cls) (h1:q.cls<m.classes) {b:Box} (he:b.empty=false) :
  (changeM m q b).a=(boundP m q.cls (pairB q b)).1-(boundP m q.cls b).2∧(changeM m q b).b=(boundP m q.cls (pairB q b)).2-(boundP m q.cls b).1:=by
 rw[change_some hp h0 h1 he,boundP_pts hm q.cls (pair_some he) (second_some hp he) (pair_pts hp he),boundP_pts hm q.cls he (first_some hp he) (first_pts hp he)]
 exact⟨rfl,rfl⟩
theorem closed_shown {m:Model} (hm:RM m) {q:Query} (hq:okQuery m q=true) {b:Box} (hb:b.empty=false):closedM m q b=shownM m q b:=by
 rw[Bool.eq_iff_iff,closed_iff hm hq hb]
 have hs:=okQuery_spec hq
 have hk:=okKind_spec hs.2.2.2.2.2
 have hcl:=hm.classes
 unfold Shown shownM
 rcases hk with⟨k,_⟩|⟨k,k2,_⟩|⟨k,f0,f1,_⟩
 ·simp[k]
 ·have h2:m.classes=2∨m.classes=3:=by omega
  simp only[k,Int.reduceEq,false_and,true_and,false_or,or_false,if_false,if_true,Bool.and_eq_true,Bool.or_eq_true,decide_eq_true_eq,reduceIte]
  unfold ahead marD
  constructor
  ·intro h
   refine⟨⟨?_, ?_⟩, ?_⟩
   ·by_cases e:(0:Int)=q.cls
    ·exact .inl e
    ·have:=h 0 (by omega) (by omega) e;exact .inr (by omega)
   ·by_cases e:(1:Int)=q.cls
    ·exact .inl e
    ·have:=h 1 (by omega) (by omega) e;exact .inr (by omega)
   ·rcases h2 with h2|h2
    ·exact .inl (.inl h2)
    ·by_cases e:(2:Int)=q.cls
     ·exact .inl (.inr e)
     ·have:=h 2 (by omega) (by omega) e;exact .inr (by omega)
  ·rintro⟨⟨g0,g1⟩,g2⟩ o o0 o1 on
   have ho:o=0∨o=1∨o=2:=by omega
   rcases ho with rfl|rfl|rfl
   ·rcases g0 with g|g
    ·exact absurd g on
    ·omega
   ·rcases g1 with g|g
    ·exact absurd g on
    ·omega
   ·rcases g2 with (g|g)|g
    ·omega
    ·exact absurd g on
    ·omega
 ·have hp:paired q=true:=by unfold paired;simp;have:=hm.dim;omega
  obtain⟨e1,e2⟩:=change_shown hm hp hs.1 hs.2.1 hb
  rw[e1,e2]
  by_cases hle:b.s4.hi≤(b.get q.feature).lo
  ·simp[k,hle]
   intro h;omega
  ·have hlt:(b.get q.feature).lo<b.s4.hi:=by omega
   cases hf:q.falls<;>simp[k,hle,hlt]<;>omega
end Go.Co
/- CO: the checker's own bounds. -/
set_option maxHeartbeats 16000000
set_option maxRecDepth 100000
namespace Go.Co
open Go.Am Go.Proofs
def c118_31:ACode:=.seq (.seq (.ops [⟨some 18,.mv (.t 9),none,[]⟩,⟨some 19,.len (.t 18),none,[9]⟩,⟨some 20,.bin .gtr (.t 19) (.c (.int .i64 0)),none,[]⟩] [0,6,7,8,9,20]) (.cond (.t 20) .skip (.exit 0))) (.block 1 (.seq (.ops [⟨some 21,.mv (.t 9),none,[]⟩,⟨some 22,.mv (.t 9),none,[]⟩,⟨some 23,.len (.t 22),none,[9]⟩,⟨some 24,.bin .sub (.t 23) (.c (.int .i64 1)),none,[]⟩,⟨some 25,.ias (.t 21) (.t 24) 11,none,[9]⟩,⟨some 26,.load 11 true (.t 25),none,[9]⟩,⟨some 10,.alloc [.int .i64 0,.int .i64 0,.int .i64 0,.int .i64 0,.int .i64 0,.int .i64 0,.int .i64 0,.int .i64 0,.int .i64 0,.int .i64 0,.int .i64 0],none,[]⟩,⟨none,.store (.t 10) 11 (.t 26),none,[10]⟩] [0,6,7,8,9,10]) (.seq (.ops [⟨some 27,.mv (.t 9),none,[]⟩,⟨some 28,.mv (.t 9),none,[]⟩,⟨some 29,.len (.t 28),none,[9]⟩,⟨some 30,.bin .sub (.t 29) (.c (.int .i64 1)),none,[]⟩,⟨some 31,.sl (.t 27) none (some (.t 30)) 11,none,[9]⟩,⟨some 9,.mv (.t 31),none,[]⟩] [0,6,7,8,9,10]) (.seq (.ops [⟨some 33,.mv (.t 0),none,[]⟩,⟨some 34,.fad (.t 10) 0,none,[10]⟩,⟨some 35,.load 1 false (.t 34),none,[10]⟩,⟨some 36,.ias (.t 33) (.t 35) 1,none,[]⟩,⟨some 37,.load 1 false (.t 36),none,[]⟩,⟨some 38,.call 64 [.t 37],none,[]⟩,⟨some 32,.mv (.t 38),none,[]⟩,⟨some 39,.ext (.t 32) 0,none,[]⟩,⟨some 40,.ext (.t 32) 1,none,[]⟩,⟨some 11,.alloc [.bool false,.int .i64 0,.int .i64 0,.int .i64 0,.int .i64 0,.int .i64 0],none,[]⟩,⟨none,.store (.t 11) 6 (.t 39),none,[11]⟩,⟨some 12,.mv (.t 40),none,[]⟩] [0,6,7,8,9,10,11,12]) (.seq (.seq (.ops [⟨some 41,.mv (.t 12),none,[]⟩,⟨some 42,.un .not (.t 41),none,[]⟩,⟨some 43,.mv (.t 42),none,[]⟩,⟨some 44,.fad (.t 10) 1,some (43,false),[10]⟩,⟨some 45,.load 10 true (.t 44),some (43,false),[10]⟩,⟨some 46,.call 52 [.t 45],some (43,false),[]⟩,⟨some 47,.pick (.t 43) (.c (.bool true)) (.t 46),none,[]⟩] [0,6,7,8,9,10,11,47]) (.cond (.t 47) (.exit 1) .skip)) (.seq (.seq (.ops [⟨some 48,.fad (.t 11) 0,none,[11]⟩,⟨some 49,.load 1 false (.t 48),none,[11]⟩,⟨some 50,.un .not (.t 49),none,[]⟩] [0,6,7,8,9,10,11,50]) (.cond (.t 50) (.seq (.ops [⟨some 52,.fad (.t 10) 1,none,[10]⟩,⟨some 53,.load 10 true (.t 52),none,[10]⟩,⟨some 54,.fad (.t 11) 2,none,[11]⟩,⟨some 55,.load 1 false (.t 54),none,[11]⟩,⟨some 56,.fad (.t 11) 3,none,[11]⟩,⟨some 57,.load 1 false (.t 56),none,[11]⟩,⟨some 58,.call 68 [.t 53,.t 55,.t 57],none,[]⟩,⟨some 51,.mv (.t 58),none,[]⟩,⟨some 59,.ext (.t 51) 0,none,[]⟩,⟨some 60,.ext (.t 51) 1,none,[]⟩,⟨some 13,.alloc [.int .i64 0,.int .i64 0,.int .i64 0,.int .i64 0,.int .i64 0,.int .i64 0,.int .i64 0,.int .i64 0,.int .i64 0,.int .i64 0],none,[]⟩,⟨some 14,.alloc [.int .i64 0,.int .i64 0,.int .i64 0,.int .i64 0,.int .i64 0,.int .i64 0,.int .i64 0,.int .i64 0,.int .i64 0,.int .i64 0],none,[]⟩,⟨none,.store (.t 13) 10 (.t 59),none,[13]⟩,⟨none,.store (.t 14) 10 (.t 60),none,[14]⟩] [0,6,7,8,9,11,13,14]) (.seq (.ops [⟨some 61,.mv (.t 9),none,[]⟩,⟨some 62,.fad (.t 11) 4,none,[11]⟩,⟨some 63,.load 1 false (.t 62),none,[11]⟩,⟨some 64,.load 10 true (.t 13),none,[13]⟩,⟨some 65,.build [.int .i64 0,.int .i64 0,.int .i64 0,.int .i64 0,.int .i64 0,.int .i64 0,.int .i64 0,.int .i64 0,.int .i64 0,.int .i64 0,.int .i64 0] [(0,1,.t 63),(1,10,.t 64)],none,[]⟩,⟨some 66,.fad (.t 11) 5,none,[11]⟩,⟨some 67,.load 1 false (.t 66),none,[11]⟩,⟨some 68,.load 10 true (.t 14),none,[14]⟩,⟨some 69,.build [.int .i64 0,.int .i64 0,.int .i64 0,.int .i64 0,.int .i64 0,.int .i64 0,.int .i64 0,.int .i64 0,.int .i64 0,.int .i64 0,.int .i64 0] [(0,1,.t 67),(1,10,.t 68)],none,[]⟩,⟨some 70,.mkrow 70 2 11 [.int .i64 0,.int .i64 0,.int .i64 0,.int .i64 0,.int .i64 0,.int .i64 0,.int .i64 0,.int .i64 0,.int .i64 0,.int .i64 0,.int .i64 0] [(0,11,.t 65),(11,11,.t 69)],none,[]⟩,⟨some 71,.app 9 [9] (.t 61) (.t 70) 11,none,[9,70]⟩,⟨some 9,.mv (.t 71),none,[]⟩] [0,6,7,8,9]) (.exit 1))) .skip)) (.seq (.seq (.ops [⟨some 72,.mv (.t 8),none,[]⟩,⟨some 73,.un .not (.t 72),none,[]⟩] [0,6,7,8,9,11,73]) (.cond (.t 73) (.ops [⟨some 74,.fad (.t 11) 1,none,[11]⟩,⟨some 75,.load 1 false (.t 74),none,[11]⟩,⟨some 76,.fad (.t 11) 1,none,[11]⟩,⟨some 77,.load 1 false (.t 76),none,[11]⟩,⟨some 6,.mv (.t 75),none,[]⟩,⟨some 7,.mv (.t 77),none,[]⟩,⟨some 8,.mv (.c (.bool true)),none,[]⟩] [0,6,7,8,9,11]) .skip)) (.ops [⟨some 78,.mv (.t 6),none,[]⟩,⟨some 79,.fad (.t 11) 1,none,[11]⟩,⟨some 80,.load 1 false (.t 79),none,[11]⟩,⟨some 81,.mnmx false (.t 78) (.t 80),none,[]⟩,⟨some 82,.mv (.t 7),none,[]⟩,⟨some 83,.fad (.t 11) 1,none,[11]⟩,⟨some 84,.load 1 false (.t 83),none,[11]⟩,⟨some 85,.mnmx true (.t 82) (.t 84),none,[]⟩,⟨some 6,.mv (.t 81),none,[]⟩,⟨some 7,.mv (.t 85),none,[]⟩] [0,6,7,8,9]))))))))
theorem r118_31:type_of% (rr c118_31.eq_1):=rr rfl
def c118_40:ACode:=.seq (.ops [⟨some 3,.box (.t 1) 10,none,[]⟩,⟨some 4,.mv (.c (.int .i64 0)),none,[]⟩,⟨some 5,.mv (.c (.int .i64 0)),none,[]⟩] [0,3]) (.seq (.ops [⟨some 6,.mv (.c (.int .i64 0)),none,[]⟩,⟨some 7,.mv (.c (.int .i64 0)),none,[]⟩,⟨some 8,.mv (.c (.bool false)),none,[]⟩] [0,3,6,7,8]) (.seq (.ops [⟨some 15,.load 10 true (.t 3),none,[3]⟩,⟨some 16,.build [.int .i64 0,.int .i64 0,.int .i64 0,.int .i64 0,.int .i64 0,.int .i64 0,.int .i64 0,.int .i64 0,.int .i64 0,.int .i64 0,.int .i64 0] [(0,1,.c (.int .i64 0)),(1,10,.t 15)],none,[]⟩,⟨some 17,.mkrow 9 1 11 [.int .i64 0,.int .i64 0,.int .i64 0,.int .i64 0,.int .i64 0,.int .i64 0,.int .i64 0,.int .i64 0,.int .i64 0,.int .i64 0,.int .i64 0] [(0,11,.t 16)],none,[]⟩,⟨some 9,.mv (.t 17),none,[]⟩] [0,6,7,8,9]) (.seq (.block 0 (.loop (.keep [0,6,7,8,9] [9] c118_31))) (.seq (.ops [⟨some 86,.mv (.t 6),none,[]⟩,⟨some 87,.mv (.t 7),none,[]⟩,⟨some 4,.mv (.t 86),none,[]⟩,⟨some 5,.mv (.t 87),none,[]⟩] [4,5]) .ret))))
theorem r118_40:type_of% (rr c118_40.eq_1):=rr rfl
def a118:AFun:=⟨2,88,c118_40,[.t 4,.t 5]⟩
attribute [simp] r118_31 r118_40
theorem m118:mFun Tryz.prog Tryz.f118 a118=true:=by decide +kernel
def c80_22:ACode:=.seq (.ops [⟨some 43,.bin .lss (.t 42) (.t 41),none,[]⟩] [1,5,8,9,40,41,42,43]) (.seq (.cond (.t 43) .skip (.exit 0)) (.seq (.block 1 (.seq (.ops [⟨some 44,.ias (.t 40) (.t 42) 2,none,[]⟩,⟨some 45,.load 2 true (.t 44),none,[]⟩,⟨some 11,.alloc [.int .i64 0,.nils],none,[]⟩,⟨none,.store (.t 11) 2 (.t 45),none,[11]⟩] [1,5,8,9,11,40,41,42]) (.seq (.ops [⟨some 46,.fad (.t 11) 0,none,[11]⟩,⟨some 47,.load 1 false (.t 46),none,[11]⟩,⟨some 48,.mv (.t 1),none,[]⟩,⟨some 49,.bin .eql (.t 47) (.t 48),none,[]⟩] [1,5,8,9,11,40,41,42,49]) (.cond (.t 49) (.seq (.ops [⟨some 51,.fad (.t 11) 1,none,[11]⟩,⟨some 52,.load 1 false (.t 51),none,[11]⟩,⟨some 53,.load 10 true (.t 5),none,[5]⟩,⟨some 54,.call 118 [.t 52,.t 53],none,[]⟩,⟨some 50,.mv (.t 54),none,[]⟩,⟨some 55,.ext (.t 50) 0,none,[]⟩,⟨some 56,.ext (.t 50) 1,none,[]⟩,⟨some 12,.mv (.t 55),none,[]⟩,⟨some 13,.mv (.t 56),none,[]⟩] [1,5,8,9,12,13,40,41,42]) (.ops [⟨some 57,.mv (.t 8),none,[]⟩,⟨some 58,.mv (.t 12),none,[]⟩,⟨some 59,.bin .add (.t 57) (.t 58),none,[]⟩,⟨some 60,.mv (.t 9),none,[]⟩,⟨some 61,.mv (.t 13),none,[]⟩,⟨some 62,.bin .add (.t 60) (.t 61),none,[]⟩,⟨some 8,.mv (.t 59),none,[]⟩,⟨some 9,.mv (.t 62),none,[]⟩] [1,5,8,9,40,41,42])) .skip)))) (.ops [⟨some 63,.bin .add (.t 42) (.c (.int .i64 1)),none,[]⟩,⟨some 42,.mv (.t 63),none,[]⟩] [1,5,8,9,40,41,42])))
theorem r80_22:type_of% (rr c80_22.eq_1):=rr rfl
def c80_32:ACode:=.seq (.ops [⟨some 3,.box (.t 0) 6,none,[]⟩,⟨some 5,.box (.t 2) 10,none,[]⟩,⟨some 6,.mv (.c (.int .i64 0)),none,[]⟩,⟨some 7,.mv (.c (.int .i64 0)),none,[]⟩] [1,3,5]) (.seq (.seq (.ops [⟨some 14,.load 6 true (.t 3),none,[3]⟩,⟨some 15,.call 38 [.t 14],none,[]⟩,⟨some 16,.un .not (.t 15),none,[]⟩,⟨some 17,.mv (.t 16),none,[]⟩,⟨some 18,.mv (.t 1),some (17,false),[]⟩,⟨some 19,.bin .lss (.t 18) (.c (.int .i64 0)),some (17,false),[]⟩,⟨some 20,.pick (.t 17) (.c (.bool true)) (.t 19),none,[]⟩,⟨some 21,.mv (.t 20),none,[]⟩,⟨some 22,.mv (.t 1),some (21,false),[]⟩,⟨some 23,.fad (.t 3) 1,some (21,false),[3]⟩,⟨some 24,.load 1 false (.t 23),some (21,false),[3]⟩,⟨some 25,.bin .geq (.t 22) (.t 24),some (21,false),[]⟩,⟨some 26,.pick (.t 21) (.c (.bool true)) (.t 25),none,[]⟩,⟨some 27,.mv (.t 26),none,[]⟩,⟨some 28,.load 10 true (.t 5),some (27,false),[5]⟩,⟨some 29,.call 52 [.t 28],some (27,false),[]⟩,⟨some 30,.pick (.t 27) (.c (.bool true)) (.t 29),none,[]⟩] [1,3,5,30]) (.cond (.t 30) (.seq (.ops [⟨some 6,.mv (.c (.int .i64 0)),none,[]⟩,⟨some 7,.mv (.c (.int .i64 0)),none,[]⟩] [6,7]) .ret) .skip)) (.seq (.ops [⟨some 31,.mv (.t 1),none,[]⟩,⟨some 32,.fad (.t 3) 2,none,[3]⟩,⟨some 33,.iad (.t 32) (.t 31) 1 3,none,[3]⟩,⟨some 34,.load 1 false (.t 33),none,[3]⟩,⟨some 35,.mv (.t 1),none,[]⟩,⟨some 36,.fad (.t 3) 2,none,[3]⟩,⟨some 37,.iad (.t 36) (.t 35) 1 3,none,[3]⟩,⟨some 38,.load 1 false (.t 37),none,[3]⟩,⟨some 8,.mv (.t 34),none,[]⟩,⟨some 9,.mv (.t 38),none,[]⟩] [1,3,5,8,9]) (.seq (.seq (.ops [⟨some 39,.fad (.t 3) 5,none,[3]⟩,⟨some 40,.load 1 false (.t 39),none,[3]⟩,⟨some 41,.len (.t 40),none,[]⟩,⟨some 42,.mv (.c (.int .i64 0)),none,[]⟩] [1,5,8,9,40,41,42]) (.block 0 (.loop (.keep [1,5,8,9,40,41,42] [5] c80_22)))) (.seq (.ops [⟨some 64,.mv (.t 8),none,[]⟩,⟨some 65,.mv (.t 9),none,[]⟩,⟨some 6,.mv (.t 64),none,[]⟩,⟨some 7,.mv (.t 65),none,[]⟩] [6,7]) .ret))))
theorem r80_32:type_of% (rr c80_32.eq_1):=rr rfl
def a80:AFun:=⟨3,66,c80_32,[.t 6,.t 7]⟩
attribute [simp] r80_22 r80_32
theorem m80:mFun Tryz.prog Tryz.f80 a80=true:=by decide +kernel
structure Visit where
 at_:Int
 box:Box
instance:Row Visit where
 sz:=11
 enc x:=[.int .i64 x.at_,.int .i64 x.box.s0.lo,.int .i64 x.box.s0.hi,.int .i64 x.box.s1.lo,.int .i64 x.box.s1.hi,.int .i64 x.box.s2.lo,.int .i64 x.box.s2.hi,.int .i64 x.box.s3.lo,.int .i64 x.box.s3.hi,.int .i64 x.box.s4.lo,.int .i64 x.box.s4.hi]
 dec xs:=match xs with
  | [.int .i64 v0,.int .i64 v1,.int .i64 v2,.int .i64 v3,.int .i64 v4,.int .i64 v5,.int .i64 v6,.int .i64 v7,.int .i64 v8,.int .i64 v9,.int .i64 v10]=>some ⟨v0,⟨⟨v1,v2⟩,⟨v3,v4⟩,⟨v5,v6⟩,⟨v7,v8⟩,⟨v9,v10⟩⟩⟩
  | _=>none
 pos:=by decide
 len _:=rfl
 dec_enc _:=rfl
 enc_dec xs a h:=by
  split at h
  ·cases h;rfl
  ·cases h
@[simp] theorem sz_Visit:Row.sz Visit=11:=rfl
def vis (l:List Word) (b:Box) (s:Nat):Visit:=⟨s,own l b s⟩
theorem rd_top {α:Type} [Row α] (X:List α) (v:α) (G:List AV):rd (encL (X++[v])++G) (X.length*Row.sz α) (Row.sz α) true=some (.agg (Row.enc v)):=by
 have h1:=encL_length X
 have h2:=Row.len v
 rw[encL_append,List.append_assoc]
 unfold rd
 rw[if_pos (by simp[encL_cons,encL_nil,h1,h2])]
 simp only[if_true]
 rw[← h1,List.drop_left]
 simp only[encL_cons,encL_nil,List.append_nil]
 rw[← h2,List.take_left]
inductive Desc (l:List Word) (i:Nat):Nat→Prop
 | self:Desc l i i
 | left {j:Nat}:Desc l i j→(ndAt l j).leaf=false→Desc l i (ndAt l j).left.toNat
 | right {j:Nat}:Desc l i j→(ndAt l j).leaf=false→Desc l i (ndAt l j).right.toNat
theorem Desc.sub {l:List Word} {d:Int} (hr:RT l d) {b:Box} {i j:Nat} (h:Desc l i j) (hi:i<l.length):j<l.length∧∀ p t,InB (own l b j) p t→InB (own l b i) p t:=by
 induction h with
 | self=>exact⟨hi,fun p t h=>h⟩
 | @left j hd hl ih =>
  have ha:=hr.at ih.1 hl
  have hf:=hr.feature ih.1 hl
  have hc:=own_child hr b ih.1 hl
  refine⟨by omega,fun p t h=>ih.2 p t ?_⟩
  rw[hc.1] at h
  exact ((cutB_1 _ hf _ p t).1 h).1
 | @right j hd hl ih =>
  have ha:=hr.at ih.1 hl
  have hf:=hr.feature ih.1 hl
  have hc:=own_child hr b ih.1 hl
  refine⟨by omega,fun p t h=>ih.2 p t ?_⟩
  rw[hc.2] at h
  exact ((cutB_2 _ hf _ p t).1 h).1
theorem Desc.cases' {l:List Word} {i j:Nat} (h:Desc l i j):j=i∨((ndAt l i).leaf=false∧(Desc l (ndAt l i).left.toNat j∨Desc l (ndAt l i).right.toNat j)):=by
 induction h with
 | self=>exact .inl rfl
 | left hd hl ih =>
  rcases ih with rfl|⟨h1,h2|h2⟩
  ·exact .inr ⟨hl,.inl .self⟩
  ·exact .inr ⟨h1,.inl (h2.left hl)⟩
  ·exact .inr ⟨h1,.inr (h2.left hl)⟩
 | right hd hl ih =>
  rcases ih with rfl|⟨h1,h2|h2⟩
  ·exact .inr ⟨hl,.inr .self⟩
  ·exact .inr ⟨h1,.inl (h2.right hl)⟩
  ·exact .inr ⟨h1,.inr (h2.right hl)⟩
theorem desc_root {l:List Word} {d:Int} (hr:RT l d):∀ j,j<l.length→Desc l 0 j:=by
 intro j
 induction j using Nat.strongRecOn with
 | _ j ih =>
  intro hj
  by_cases h0:j=0
  ·subst h0;exact .self
  ·obtain⟨i,hi,hl,hn⟩:=hr.parent (show 1≤j by omega) hj
   have hd:=ih i hi (by omega)
   have ha:=hr.at (show i<l.length by omega) hl
   rcases hn with hn|hn
   ·have:=hd.left hl
    rw[show (ndAt l i).left.toNat=j by omega] at this
    exact this
   ·have:=hd.right hl
    rw[show (ndAt l i).right.toNat=j by omega] at this
    exact this
def wgt (s:Nat):Nat:=2^(32-s)-1
def wgts (S:List Nat):Nat:=(S.map wgt).sum
theorem wgts_app (S T:List Nat):wgts (S++T)=wgts S+wgts T:=by simp[wgts]
theorem wgt_pos {s:Nat} (h:s<31):1≤wgt s:=by
 unfold wgt
 have:2^1≤2^(32-s):=Nat.pow_le_pow_right (by omega) (by omega)
 omega
theorem wgt_two {s a b:Nat} (h1:s<a) (h2:s<b) (ha:a<31):wgt a+wgt b<wgt s:=by
 unfold wgt
 have e:32-s=(31-s)+1:=by omega
 have p1:2^(32-a)≤2^(31-s):=Nat.pow_le_pow_right (by omega) (by omega)
 have p2:2^(32-b)≤2^(31-s):=Nat.pow_le_pow_right (by omega) (by omega)
 have p3:1≤2^(31-s):=Nat.one_le_two_pow
 have p4:1≤2^(32-a):=Nat.one_le_two_pow
 have p5:1≤2^(32-b):=Nat.one_le_two_pow
 rw[e,Nat.pow_succ]
 omega
theorem len_wgts:∀(S:List Nat),(∀ s∈S,s<31)→S.length≤wgts S
 | [],_=>by simp[wgts]
 | s::S,h=>by
  have h1:=wgt_pos (h s (by simp))
  have h2:=len_wgts S (fun x hx=>h x (by simp[hx]))
  simp only[wgts,List.map_cons,List.sum_cons,List.length_cons] at *
  omega
structure EI (l:List Word) (b:Box) (S:List Nat) (lo hi:Int) (sm:Bool):Prop where
 lt:∀ s∈S,s<l.length
 cover:∀ j,j<l.length→(ndAt l j).leaf=true→(own l b j).empty=false→(sm=true∧lo≤(ndAt l j).value∧(ndAt l j).value≤hi)∨∃ s∈S,Desc l s j
 att:sm=true→(∃ x∈pieces l b,x.value=lo)∧∃ x∈pieces l b,x.value=hi
theorem EI.done {l:List Word} {d:Int} (hr:RT l d) {b:Box} (he:b.empty=false) {lo hi:Int} {sm:Bool} (h:EI l b [] lo hi sm):lo=(boundT l b).a∧hi=(boundT l b).b:=by
 have hb:boundT l b=ends (pieces l b):=by unfold boundT;rw[he];rfl
 obtain⟨h1,h2,⟨x,hx,h3⟩,⟨y,hy,h4⟩⟩:=ends_spec (pieces_ne hr he)
 rw[hb]
 have cov:∀ z∈pieces l b,sm=true∧lo≤z.value∧z.value≤hi:=by
  intro z hz
  obtain⟨i,hi',hl,hE,rfl⟩:=mem_pieces.1 hz
  rcases h.cover i hi' hl hE with hc|⟨s,hs,_⟩
  ·exact hc
  ·simp at hs
 have cx:=cov x hx
 have cy:=cov y hy
 obtain⟨⟨u,hu,hu2⟩,⟨v,hv,hv2⟩⟩:=h.att cx.1
 have k1:=h2 u hu
 have k2:=h2 v hv
 omega
noncomputable def EndsC (l:List Word) (b:Box):Option (Int×Int):=Part ((∃ d,RT l d)∧okB b∧b.empty=false) ((boundT l b).a,(boundT l b).b)
theorem take_vis (X:List Visit) (G:List AV) (n:Nat) (h:n=X.length*11):List.take n (encL X++G)=encL X:=by
 rw[h,← show (encL X).length=X.length*11 from encL_length X,List.take_left]
theorem runs_ends (l:List Word) (b:Box) (c:Int×Int) (h:EndsC l b=some c):Runs (tbl [(64,sp1 Unpack),(52,sp1 fun (b:Box)=>some b.empty),(68,sp3 CutB)]) a118 [Arg.enc l,Arg.enc b] (Arg.enc c):=by
 obtain⟨⟨⟨d,hr⟩,hb,he⟩,rfl⟩:=part_some h
 clear h
 refine⟨rfl,fun g=>run_def ?_⟩
 unfold a118
 have hle:=hr.le
 have b3:l.length≤maxN:=by unfold maxN;omega
 simp -implicitDefEqProofs [b3]
 refine run_while (c:=c118_31) (fun n s=>∃(S:List Nat) (lo hi:Int) (sm:Bool) (G:List AV) (g:Nat→Nat),n=wgts S∧n<2^33∧EI l b S lo hi sm∧s=⟨[(0,.lst l.length (encL l)),(6,.int .i64 lo),(7,.int .i64 hi),(8,.bool sm),(9,.own 9 (g 9) 0 S.length)],[(9,⟨encL (S.map (vis l b))++G,false,11⟩)],g⟩) (wgts [0]) ⟨[0],0,0,false,[],bump 9 (bump 3 g),rfl,by simp[wgts,wgt],⟨fun s hs=>by simp at hs;have:=hr.pos;omega,fun j hj _ _=>.inr ⟨0,by simp,desc_root hr j hj⟩,fun h=>by cases h⟩,by simp[encL_cons,encL_nil,vis,own_root];rfl⟩ ?_
 rintro n s ⟨S,lo,hi,sm,G,g,hn,hn2,hE,rfl⟩
 rcases List.eq_nil_or_concat S with rfl|⟨S,s,rfl⟩
 ·obtain⟨e1,e2⟩:=hE.done hr he
  simp -implicitDefEqProofs [e1,e2]
 rw[List.concat_eq_append] at *
 have hs:s<l.length:=hE.lt s (by simp)
 have hsl:=len_wgts S (fun x hx=>by have:=hE.lt x (by simp[hx]);omega)
 rw[wgts_app] at hn
 have hw1:=wgt_pos (show s<31 by omega)
 have hws:wgts [s]=wgt s:=by simp[wgts]
 have hL:S.length≤8589934592:=by have:(2:Nat)^33=8589934592:=(by decide);omega
 have wL:IntKind.i64.wrap ((S.length:Nat):Int)=S.length:=wrap64 (by omega) (by omega)
 have c0:S.length+1≤maxN:=by unfold maxN;omega
 have hU:=unpack_at hr hs
 have htop:rd (encL (S.map (vis l b))++(Row.enc (vis l b s)++G)) (S.length*11) 11 true=some (.agg (Row.enc (vis l b s))):=by
  have:=rd_top (S.map (vis l b)) (vis l b s) G
  rw[encL_append,List.append_assoc] at this
  simpa [encL_cons,encL_nil] using this
 have e1:encL ((S++[s]).map (vis l b))++G=encL (S.map (vis l b))++(Row.enc (vis l b s)++G):=by simp[encL_append,encL_cons,encL_nil]
 have e2:(S++[s]).length=S.length+1:=by simp
 rw[e1,e2]
 have htk:List.take (S.length*11) (encL (S.map (vis l b))++(Row.enc (vis l b s)++G))=encL (S.map (vis l b)):=take_vis _ _ _ (by simp)
 have hlen:S.length*11≤(encL (S.map (vis l b))++(Row.enc (vis l b s)++G)).length:=by
  have:=encL_length (S.map (vis l b))
  simp at this
  simp[this]
 generalize (Row.enc (vis l b s)++G)=G2 at *
 have hlen2:S.length*11≤(encL (S.map (vis l b))).length+G2.length:=by simpa using hlen
 have htop:rd (encL (S.map (vis l b))++G2) (S.length*11) 11 true=some (.agg [.int .i64 s,.int .i64 (own l b s).s0.lo,.int .i64 (own l b s).s0.hi,.int .i64 (own l b s).s1.lo,.int .i64 (own l b s).s1.hi,.int .i64 (own l b s).s2.lo,.int .i64 (own l b s).s2.hi,.int .i64 (own l b s).s3.lo,.int .i64 (own l b s).s3.hi,.int .i64 (own l b s).s4.lo,.int .i64 (own l b s).s4.hi]):=htop
 have hEc:∀ j,j<l.length→(ndAt l j).leaf=true→(own l b j).empty=false→(sm=true∧lo≤(ndAt l j).value∧(ndAt l j).value≤hi)∨(∃ x∈S,Desc l x j)∨Desc l s j:=by
  intro j h1 h2 h3
  rcases hE.cover j h1 h2 h3 with h|⟨x,hx,hd⟩
  ·exact .inl h
  ·rcases List.mem_append.1 hx with hx|hx
   ·exact .inr (.inl ⟨x,hx,hd⟩)
   ·simp at hx;subst hx;exact .inr (.inr hd)
 have hlt:∀ x∈S,x<l.length:=fun x hx=>hE.lt x (by simp[hx])
 have c9:(S.length:Int)<(S.length:Int)+1:=by omega
 have c10:(S.length:Int)≤(S.length:Int)+1:=by omega
 have hlw:wgts [s]=wgt s:=hws
 cases hoe:(own l b s).empty
 case true =>
  have hE2:EI l b S lo hi sm:=by
   refine⟨hlt, ?_,hE.att⟩
   intro j h1 h2 h3
   rcases hEc j h1 h2 h3 with h|h|h
   ·exact .inl h
   ·exact .inr h
   ·exfalso
    obtain⟨p,t,hp⟩:=empty_false.1 h3
    exact empty_true.1 hoe p t ((h.sub hr hs).2 p t hp)
  cases sm<;>simp -implicitDefEqProofs [c0,c9,c10,wL,htop,hU,hs,rd_words,hoe]
  all_goals exact⟨wgts S,by omega,S,rfl,by omega,lo,hi,hE2,⟨rfl,rfl,rfl⟩,G2,rfl⟩
 case false =>
  cases hl:(ndAt l s).leaf
  case false =>
   have ha:=hr.at hs hl
   have hf:=hr.feature hs hl
   have hC:CutB (own l b s) (ndAt l s).feature (ndAt l s).cut=some (cutB (own l b s) (ndAt l s).feature (ndAt l s).cut):=cutB_of (okB_own hr hb s s (by omega)) (ndAt l s).feature (ok64_fits (hr.cutOk hs))
   have hch:=own_child hr b hs hl
   have hpr:cutB (own l b s) (ndAt l s).feature (ndAt l s).cut=(own l b (ndAt l s).left.toNat,own l b (ndAt l s).right.toNat):=Prod.ext hch.1.symm hch.2.symm
   rw[hpr] at hC
   have c11:S.length≤1099511627774:=by omega
   have hw2:=wgt_two (s:=s) (a:=(ndAt l s).left.toNat) (b:=(ndAt l s).right.toNat) (by omega) (by omega) (by omega)
   have hw3:wgts (S++[(ndAt l s).left.toNat,(ndAt l s).right.toNat])=wgts S+(wgt (ndAt l s).left.toNat+wgt (ndAt l s).right.toNat):=by rw[wgts_app];simp[wgts]
   have hE2:EI l b (S++[(ndAt l s).left.toNat,(ndAt l s).right.toNat]) lo hi sm:=by
    refine⟨?_, ?_,hE.att⟩
    ·intro x hx
     rcases List.mem_append.1 hx with hx|hx
     ·exact hlt x hx
     ·simp at hx
      omega
    ·intro j h1 h2 h3
     rcases hEc j h1 h2 h3 with h|⟨x,hx,h⟩|h
     ·exact .inl h
     ·exact .inr ⟨x,by simp[hx],h⟩
     ·rcases Desc.cases' h with h|⟨_,h|h⟩
      ·subst h;rw[hl] at h2;cases h2
      ·exact .inr ⟨_,by simp,h⟩
      ·exact .inr ⟨_,by simp,h⟩
   have el:(((ndAt l s).left.toNat:Nat):Int)=(ndAt l s).left:=by omega
   have er:(((ndAt l s).right.toNat:Nat):Int)=(ndAt l s).right:=by omega
   have hcell:encL (S.map (vis l b))++(Row.enc (vis l b (ndAt l s).left.toNat)++Row.enc (vis l b (ndAt l s).right.toNat))=encL ((S++[(ndAt l s).left.toNat,(ndAt l s).right.toNat]).map (vis l b))++[]:=by simp[encL_append,encL_cons,encL_nil]
   cases sm<;>simp -implicitDefEqProofs [c0,c9,c10,c11,wL,htop,hU,hs,rd_words,hoe,hl,hC,htk,hlen2]
   all_goals refine⟨_, ?_,S++[(ndAt l s).left.toNat,(ndAt l s).right.toNat],rfl, ?_,lo,hi,hE2,⟨rfl,rfl, ?_⟩,[], ?_⟩
   all_goals first
    | omega
    | (simp;done)
    | (rw[← hcell,← el,← er];rfl)
  case true =>
   have hpc:(⟨own l b s,(ndAt l s).value⟩:Piece)∈pieces l b:=mem_pieces.2 ⟨s,hs,hl,hoe,rfl⟩
   cases sm
   case false =>
    have hE2:EI l b S (ndAt l s).value (ndAt l s).value true:=by
     refine⟨hlt, ?_,fun _=>⟨⟨_,hpc,rfl⟩,⟨_,hpc,rfl⟩⟩⟩
     intro j h1 h2 h3
     rcases hEc j h1 h2 h3 with⟨h,_⟩|h|h
     ·cases h
     ·exact .inr h
     ·rcases Desc.cases' h with h|⟨h,_⟩
      ·subst h;exact .inl ⟨rfl,Int.le_refl _,Int.le_refl _⟩
      ·rw[hl] at h;cases h
    simp -implicitDefEqProofs [c0,c9,c10,wL,htop,hU,hs,rd_words,hoe,hl]
    exact⟨wgts S,by omega,S,rfl,by omega,_,_,hE2,⟨rfl,rfl,rfl⟩,G2,rfl⟩
   case true =>
    obtain⟨⟨u,hu,hu2⟩,⟨v,hv,hv2⟩⟩:=hE.att rfl
    have hE2:EI l b S (if (ndAt l s).value<lo then (ndAt l s).value else lo) (if hi<(ndAt l s).value then (ndAt l s).value else hi) true:=by
     refine⟨hlt, ?_, ?_⟩
     ·intro j h1 h2 h3
      rcases hEc j h1 h2 h3 with⟨_,h,h'⟩|h|h
      ·refine .inl ⟨rfl, ?_, ?_⟩<;>split<;>omega
      ·exact .inr h
      ·rcases Desc.cases' h with h|⟨h,_⟩
       ·subst h;refine .inl ⟨rfl, ?_, ?_⟩<;>split<;>omega
       ·rw[hl] at h;cases h
     ·intro _
      constructor
      ·split
       ·exact⟨_,hpc,rfl⟩
       ·exact⟨u,hu,hu2⟩
      ·split
       ·exact⟨_,hpc,rfl⟩
       ·exact⟨v,hv,hv2⟩
    simp -implicitDefEqProofs [c0,c9,c10,wL,htop,hU,hs,rd_words,hoe,hl]
    exact⟨wgts S,by omega,S,rfl,by omega,_,_,hE2,⟨rfl,rfl,rfl⟩,G2,rfl⟩
theorem c_ends:Contract Tryz.prog 118 (sp2 EndsC) :=
 contract_of_runs mixed (tbl_cons c_Unpack (tbl_cons c_bEmpty (tbl_cons c_bCut tbl_nil))) Tryz.func118 m118 (sp2_runs runs_ends)
def sumsP (m:Model) (c:Int) (b:Box):Int×Int:=if c<0∨m.classes≤c∨b.empty=true then (0,0) else boundP m c b
noncomputable def SumsC (m:Model) (c:Int) (b:Box):Option (Int×Int):=Part (RM m∧okB b) (sumsP m c b)
theorem runs_sums (m:Model) (c:Int) (b:Box) (r:Int×Int) (h:SumsC m c b=some r):Runs (tbl [(38,sp1 MRight),(52,sp1 fun (b:Box)=>some b.empty),(118,sp2 EndsC)]) a80 [Arg.enc m,Arg.enc c,Arg.enc b] (Arg.enc r):=by
 obtain⟨⟨hr,hb⟩,rfl⟩:=part_some h
 refine⟨rfl,fun g=>run_def ?_⟩
 unfold a80
 have hM:MRight m=some true:=by unfold MRight;rw[if_neg (by have:=hr.dim;omega)];exact part_of hr _
 by_cases h0:c<0
 case pos=>simp -implicitDefEqProofs [hM,h0,sumsP]
 by_cases h1:m.classes≤c
 case pos=>simp -implicitDefEqProofs [hM,h0,h1,sumsP]
 cases he:b.empty
 case true=>simp -implicitDefEqProofs [hM,h0,h1,he,sumsP]
 have hle:=hr.trees
 have b3:m.trees.length≤maxN:=by unfold maxN;omega
 have c0:0≤c:=by omega
 have c3:c<3:=by have:=hr.classes;omega
 have hres:sumsP m c b=((boundP m c b).1,(boundP m c b).2):=by unfold sumsP;rw[if_neg (by simp[he];omega)]
 rw[hres]
 simp -implicitDefEqProofs [hM,h0,h1,he,b3,c0,c3]
 refine run_while (c:=c80_22) (fun n s=>∃(i:Nat) (g:Nat→Nat),i+n=m.trees.length∧s=⟨[(1,.int .i64 c),(5,.ptr 5 (g 5) 0),(8,.int .i64 ((m.trees.take i).foldl (boundF c b) (m.bias.get c,m.bias.get c)).1),(9,.int .i64 ((m.trees.take i).foldl (boundF c b) (m.bias.get c,m.bias.get c)).2),(40,.lst m.trees.length (encL m.trees)),(41,.int .i64 m.trees.length),(42,.int .i64 i)],
  [(5,⟨[.int .i64 b.s0.lo,.int .i64 b.s0.hi,.int .i64 b.s1.lo,.int .i64 b.s1.hi,.int .i64 b.s2.lo,.int .i64 b.s2.hi,.int .i64 b.s3.lo,.int .i64 b.s3.hi,.int .i64 b.s4.lo,.int .i64 b.s4.hi],false,0⟩)],g⟩) m.trees.length ⟨0,bump 5 (bump 3 g),by omega,by simp⟩ ?_
 rintro n s ⟨i,g,hi,rfl⟩
 by_cases h1:i<m.trees.length
 case pos =>
  have w1:IntKind.i64.wrap ((i:Int)+1)=(i:Int)+1:=wrap64 (by omega) (by omega)
  have hrow:=rd_tree m.trees i h1
  have hrt:=hr.rt (List.getElem_mem h1)
  have hV:EndsC m.trees[i].nodes b=some ((boundT m.trees[i].nodes b).a,(boundT m.trees[i].nodes b).b):=part_of ⟨⟨_,hrt⟩,hb,he⟩ _
  have hbd:=boundF_le (c:=c) he (m.trees.take (i+1)) (m.bias.get c,m.bias.get c) (fun t ht=>⟨_,hr.rt (List.mem_of_mem_take ht)⟩)
  have hb2:=of_fits (Bias.get_fits hr c)
  have hs:(m.trees.take (i+1)).foldl (boundF c b) (m.bias.get c,m.bias.get c)=boundF c b ((m.trees.take i).foldl (boundF c b) (m.bias.get c,m.bias.get c)) m.trees[i]:=by
   rw[List.take_succ_eq_append_getElem h1,List.foldl_append]
   rfl
  have hl:(m.trees.take (i+1)).length≤8:=by simp;omega
  simp only at hbd
  by_cases hc:m.trees[i].cls=c
  case pos =>
   have hs1:((m.trees.take (i+1)).foldl (boundF c b) (m.bias.get c,m.bias.get c)).1=((m.trees.take i).foldl (boundF c b) (m.bias.get c,m.bias.get c)).1+(boundT m.trees[i].nodes b).a:=by rw[hs,boundF,if_pos hc]
   have hs2:((m.trees.take (i+1)).foldl (boundF c b) (m.bias.get c,m.bias.get c)).2=((m.trees.take i).foldl (boundF c b) (m.bias.get c,m.bias.get c)).2+(boundT m.trees[i].nodes b).b:=by rw[hs,boundF,if_pos hc]
   have w2:IntKind.i64.wrap (((m.trees.take i).foldl (boundF c b) (m.bias.get c,m.bias.get c)).1+(boundT m.trees[i].nodes b).a)=((m.trees.take (i+1)).foldl (boundF c b) (m.bias.get c,m.bias.get c)).1:=by rw[← hs1];exact wrap64 (by omega) (by omega)
   have w3:IntKind.i64.wrap (((m.trees.take i).foldl (boundF c b) (m.bias.get c,m.bias.get c)).2+(boundT m.trees[i].nodes b).b)=((m.trees.take (i+1)).foldl (boundF c b) (m.bias.get c,m.bias.get c)).2:=by rw[← hs2];exact wrap64 (by omega) (by omega)
   simp -implicitDefEqProofs [h1,hrow,hc,hV,w1,w2,w3]
   exact⟨n-1,by omega,i+1,by omega,rfl,rfl,by omega⟩
  case neg =>
   have hs2:(m.trees.take (i+1)).foldl (boundF c b) (m.bias.get c,m.bias.get c)=(m.trees.take i).foldl (boundF c b) (m.bias.get c,m.bias.get c):=by rw[hs,boundF,if_neg hc]
   simp -implicitDefEqProofs [h1,hrow,hc,hV,w1]
   exact⟨n-1,by omega,i+1,by omega,by rw[hs2],by rw[hs2],by omega⟩
 case neg =>
  have hil:i=m.trees.length:=by omega
  subst hil
  simp -implicitDefEqProofs [h1,boundP]
theorem c_sums:Contract Tryz.prog 80 (sp3 SumsC) :=
 contract_of_runs mixed (tbl_cons c_mRight (tbl_cons c_bEmpty (tbl_cons c_ends tbl_nil))) Tryz.func80 m80 (sp3_runs runs_sums)
end Go.Co
/- CO: a search, as it goes; the document's own search. -/
namespace Go.Co
open Go.Am Go.Proofs
attribute [-simp] Go.Am.eff_gcall
def zeroP:Point:=⟨0,0,0,0⟩
def sumS:Step:=⟨true,0,0⟩
def searchN (m:Model) (q:Query):Nat→Int→List Box→List Step→Verdict
 | _,sp,[],pf=>⟨1,pf,zeroP,0,sp⟩
 | 0,sp,_::_,_=>⟨3,[],zeroP,0,sp⟩
 | n+1,sp,b::bs,pf =>
  if closedM m q b then searchN m q n (sp+1) bs (pf++[sumS]) else
  if corner m q b then ⟨2,[],lowB b,b.s4.hi,sp+1⟩ else
  if (splitM m q b).c then searchN m q n (sp+1) ((cutB b (splitM m q b).a (splitM m q b).b).1::(cutB b (splitM m q b).a (splitM m q b).b).2::bs) (pf++[⟨false,(splitM m q b).a,(splitM m q b).b⟩]) else ⟨3,[],zeroP,0,sp+1⟩
def searchM (m:Model) (q:Query):Verdict:=if okQuery m q then searchN m q q.budget.toNat 0 [startOf q] [] else ⟨4,[],zeroP,0,0⟩
theorem split_in {m:Model} {q:Query} {b:Box} (h:(splitM m q b).c=true):0≤(splitM m q b).a∧(splitM m q b).a<5∧(splitM m q b).b∈cutsL m q b (splitM m q b).a:=by
 unfold splitM at *
 rcases splitFrom_spec m q b [0,1,2,3,4] with⟨h1,_⟩|⟨l,r,k,h1,h2,h3,h4⟩
 ·rw[h1] at h;cases h
 ·rw[h4]
  simp only
  have hk:k∈([0,1,2,3,4]:List Int):=by rw[h1];simp
  simp at hk
  refine⟨by omega,by omega, ?_⟩
  unfold midL
  have hp:0<(cutsL m q b k).length:=List.length_pos_iff.2 (by first|exact h2|exact h3)
  have hlt:((cutsL m q b k).length-1)/2<(cutsL m q b k).length:=by omega
  rw[List.getD_eq_getElem?_getD,List.getElem?_eq_getElem hlt]
  exact List.getElem_mem hlt
theorem okQuery_start {m:Model} {q:Query} (h:okQuery m q=true):smallB (startOf q)∧okB (startOf q)∧(startOf q).empty=false:=by
 have hs:=(okQuery_spec h).2.2.2.2.1
 unfold okRegion okSpan at hs
 simp only[Bool.and_eq_true,Bool.not_eq_true'] at hs
 obtain⟨⟨⟨⟨a0,a1⟩,a2⟩,a3⟩,a4⟩:=hs
 have key:∀ s:Span,s.empty=false→fits s.lo=true→fits s.hi=true→small s∧s.lo≤s.hi:=fun s h1 h2 h3=>by
  have h2:=of_fits h2
  have h3:=of_fits h3
  unfold Span.empty at h1
  rw[decide_eq_false_iff_not] at h1
  unfold small
  omega
 have k0:=key _ a0.1.1.2 a0.1.2 a0.2
 have k1:=key _ a1.1.1.2 a1.1.2 a1.2
 have k2:=key _ a2.1.1.2 a2.1.2 a2.2
 have k3:=key _ a3.1.1.2 a3.1.2 a3.2
 have k4:small (startOf q).s4∧(startOf q).s4.lo≤(startOf q).s4.hi:=by
  unfold startOf
  simp only
  split
  ·rename_i hp
   have hf:=paired_feature hp
   rcases hf with hf|hf|hf|hf<;>rw[hf]<;>simp only[Box.get,reduceIte,Int.reduceEq]<;>assumption
  ·unfold small;simp
 have hsm:smallB (startOf q):=⟨k0.1,k1.1,k2.1,k3.1,k4.1⟩
 have hne:(startOf q).empty=false:=by
  refine empty_get.2 fun i i0 i5=>?_
  have hi:i=0∨i=1∨i=2∨i=3∨i=4:=by omega
  rcases hi with rfl|rfl|rfl|rfl|rfl
  ·exact k0.2
  ·exact k1.2
  ·exact k2.2
  ·exact k3.2
  ·exact k4.2
 exact⟨hsm,small_ok hsm hne,hne⟩
def vCells (v:Verdict) (V:AV):List AV:=[.int .i64 v.kind,V,.int .i64 v.witness.p0,.int .i64 v.witness.p1,.int .i64 v.witness.p2,.int .i64 v.witness.p3,.int .i64 v.twin,.int .i64 v.spent]
structure SEnd (v:Verdict) (g0:Nat) (h:Hp) (g:Nat→Nat):Prop where
 zero:g 0=g0
 val:(v.proof=[]∧hlook h 4=some ⟨vCells v .nils,false,0⟩)∨(v.proof≠[]∧hlook h 4=some ⟨vCells v (.own 10601 (g 10601) 0 v.proof.length),false,0⟩∧hlook h 10601=some ⟨encL v.proof,false,3⟩)
theorem take_stepsE (X:List Step):List.take (X.length*3) (encL X)=encL X:=take_rows _ _ (by simp)
theorem len_steps (X:List Step):X.length*3≤(encL X).length:=by rw[encL_length];exact Nat.le_refl _
theorem take_boxG (X:List Box) (G:List AV):List.take (X.length*10) (encL X++G)=encL X:=by
 have:(encL X).length=X.length*10:=encL_length X
 rw[← this,List.take_left]
theorem len_boxG (X:List Box) (G:List AV):X.length*10≤(encL X++G).length:=by rw[List.length_append,encL_length];exact Nat.le_add_right _ _
end Go.Co
