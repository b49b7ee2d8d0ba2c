/- CO: texts of this claim, one behind the other. -/
import Derived.Test.YtlbfmeijjgphfaaGreatDoorCz5
import Derived.Test.YtlbfmeijjgphfaaGreatDoorCz9
import Derived.Test.YtlbfmeijjgphfaaGreatDoorCz8
set_option linter.unusedVariables false
set_option linter.unusedSimpArgs false
/- CO: the checker's own bounds. -/
set_option maxHeartbeats 16000000
set_option maxRecDepth 100000
namespace Go.Co
open Go.Am Go.Proofs
def c118_31:ACode:=.seq (.seq (.ops [⟨some 18,.mv (.t 9),none,[]⟩,⟨some 19,.len (.t 18),none,[9]⟩,⟨some 20,.bin .gtr (.t 19) (.c (.int .i64 0)),none,[]⟩] [0,6,7,8,9,20]) (.cond (.t 20) .skip (.exit 0))) (.block 1 (.seq (.ops [⟨some 21,.mv (.t 9),none,[]⟩,⟨some 22,.mv (.t 9),none,[]⟩,⟨some 23,.len (.t 22),none,[9]⟩,⟨some 24,.bin .sub (.t 23) (.c (.int .i64 1)),none,[]⟩,⟨some 25,.ias (.t 21) (.t 24) 11,none,[9]⟩,⟨some 26,.load 11 true (.t 25),none,[9]⟩,⟨some 10,.alloc [.int .i64 0,.int .i64 0,.int .i64 0,.int .i64 0,.int .i64 0,.int .i64 0,.int .i64 0,.int .i64 0,.int .i64 0,.int .i64 0,.int .i64 0],none,[]⟩,⟨none,.store (.t 10) 11 (.t 26),none,[10]⟩] [0,6,7,8,9,10]) (.seq (.ops [⟨some 27,.mv (.t 9),none,[]⟩,⟨some 28,.mv (.t 9),none,[]⟩,⟨some 29,.len (.t 28),none,[9]⟩,⟨some 30,.bin .sub (.t 29) (.c (.int .i64 1)),none,[]⟩,⟨some 31,.sl (.t 27) none (some (.t 30)) 11,none,[9]⟩,⟨some 9,.mv (.t 31),none,[]⟩] [0,6,7,8,9,10]) (.seq (.ops [⟨some 33,.mv (.t 0),none,[]⟩,⟨some 34,.fad (.t 10) 0,none,[10]⟩,⟨some 35,.load 1 false (.t 34),none,[10]⟩,⟨some 36,.ias (.t 33) (.t 35) 1,none,[]⟩,⟨some 37,.load 1 false (.t 36),none,[]⟩,⟨some 38,.call 64 [.t 37],none,[]⟩,⟨some 32,.mv (.t 38),none,[]⟩,⟨some 39,.ext (.t 32) 0,none,[]⟩,⟨some 40,.ext (.t 32) 1,none,[]⟩,⟨some 11,.alloc [.bool false,.int .i64 0,.int .i64 0,.int .i64 0,.int .i64 0,.int .i64 0],none,[]⟩,⟨none,.store (.t 11) 6 (.t 39),none,[11]⟩,⟨some 12,.mv (.t 40),none,[]⟩] [0,6,7,8,9,10,11,12]) (.seq (.seq (.ops [⟨some 41,.mv (.t 12),none,[]⟩,⟨some 42,.un .not (.t 41),none,[]⟩,⟨some 43,.mv (.t 42),none,[]⟩,⟨some 44,.fad (.t 10) 1,some (43,false),[10]⟩,⟨some 45,.load 10 true (.t 44),some (43,false),[10]⟩,⟨some 46,.call 52 [.t 45],some (43,false),[]⟩,⟨some 47,.pick (.t 43) (.c (.bool true)) (.t 46),none,[]⟩] [0,6,7,8,9,10,11,47]) (.cond (.t 47) (.exit 1) .skip)) (.seq (.seq (.ops [⟨some 48,.fad (.t 11) 0,none,[11]⟩,⟨some 49,.load 1 false (.t 48),none,[11]⟩,⟨some 50,.un .not (.t 49),none,[]⟩] [0,6,7,8,9,10,11,50]) (.cond (.t 50) (.seq (.ops [⟨some 52,.fad (.t 10) 1,none,[10]⟩,⟨some 53,.load 10 true (.t 52),none,[10]⟩,⟨some 54,.fad (.t 11) 2,none,[11]⟩,⟨some 55,.load 1 false (.t 54),none,[11]⟩,⟨some 56,.fad (.t 11) 3,none,[11]⟩,⟨some 57,.load 1 false (.t 56),none,[11]⟩,⟨some 58,.call 68 [.t 53,.t 55,.t 57],none,[]⟩,⟨some 51,.mv (.t 58),none,[]⟩,⟨some 59,.ext (.t 51) 0,none,[]⟩,⟨some 60,.ext (.t 51) 1,none,[]⟩,⟨some 13,.alloc [.int .i64 0,.int .i64 0,.int .i64 0,.int .i64 0,.int .i64 0,.int .i64 0,.int .i64 0,.int .i64 0,.int .i64 0,.int .i64 0],none,[]⟩,⟨some 14,.alloc [.int .i64 0,.int .i64 0,.int .i64 0,.int .i64 0,.int .i64 0,.int .i64 0,.int .i64 0,.int .i64 0,.int .i64 0,.int .i64 0],none,[]⟩,⟨none,.store (.t 13) 10 (.t 59),none,[13]⟩,⟨none,.store (.t 14) 10 (.t 60),none,[14]⟩] [0,6,7,8,9,11,13,14]) (.seq (.ops [⟨some 61,.mv (.t 9),none,[]⟩,⟨some 62,.fad (.t 11) 4,none,[11]⟩,⟨some 63,.load 1 false (.t 62),none,[11]⟩,⟨some 64,.load 10 true (.t 13),none,[13]⟩,⟨some 65,.build [.int .i64 0,.int .i64 0,.int .i64 0,.int .i64 0,.int .i64 0,.int .i64 0,.int .i64 0,.int .i64 0,.int .i64 0,.int .i64 0,.int .i64 0] [(0,1,.t 63),(1,10,.t 64)],none,[]⟩,⟨some 66,.fad (.t 11) 5,none,[11]⟩,⟨some 67,.load 1 false (.t 66),none,[11]⟩,⟨some 68,.load 10 true (.t 14),none,[14]⟩,⟨some 69,.build [.int .i64 0,.int .i64 0,.int .i64 0,.int .i64 0,.int .i64 0,.int .i64 0,.int .i64 0,.int .i64 0,.int .i64 0,.int .i64 0,.int .i64 0] [(0,1,.t 67),(1,10,.t 68)],none,[]⟩,⟨some 70,.mkrow 70 2 11 [.int .i64 0,.int .i64 0,.int .i64 0,.int .i64 0,.int .i64 0,.int .i64 0,.int .i64 0,.int .i64 0,.int .i64 0,.int .i64 0,.int .i64 0] [(0,11,.t 65),(11,11,.t 69)],none,[]⟩,⟨some 71,.app 9 [9] (.t 61) (.t 70) 11,none,[9,70]⟩,⟨some 9,.mv (.t 71),none,[]⟩] [0,6,7,8,9]) (.exit 1))) .skip)) (.seq (.seq (.ops [⟨some 72,.mv (.t 8),none,[]⟩,⟨some 73,.un .not (.t 72),none,[]⟩] [0,6,7,8,9,11,73]) (.cond (.t 73) (.ops [⟨some 74,.fad (.t 11) 1,none,[11]⟩,⟨some 75,.load 1 false (.t 74),none,[11]⟩,⟨some 76,.fad (.t 11) 1,none,[11]⟩,⟨some 77,.load 1 false (.t 76),none,[11]⟩,⟨some 6,.mv (.t 75),none,[]⟩,⟨some 7,.mv (.t 77),none,[]⟩,⟨some 8,.mv (.c (.bool true)),none,[]⟩] [0,6,7,8,9,11]) .skip)) (.ops [⟨some 78,.mv (.t 6),none,[]⟩,⟨some 79,.fad (.t 11) 1,none,[11]⟩,⟨some 80,.load 1 false (.t 79),none,[11]⟩,⟨some 81,.mnmx false (.t 78) (.t 80),none,[]⟩,⟨some 82,.mv (.t 7),none,[]⟩,⟨some 83,.fad (.t 11) 1,none,[11]⟩,⟨some 84,.load 1 false (.t 83),none,[11]⟩,⟨some 85,.mnmx true (.t 82) (.t 84),none,[]⟩,⟨some 6,.mv (.t 81),none,[]⟩,⟨some 7,.mv (.t 85),none,[]⟩] [0,6,7,8,9]))))))))
theorem r118_31:type_of% (rr c118_31.eq_1):=rr rfl
def c118_40:ACode:=.seq (.ops [⟨some 3,.box (.t 1) 10,none,[]⟩,⟨some 4,.mv (.c (.int .i64 0)),none,[]⟩,⟨some 5,.mv (.c (.int .i64 0)),none,[]⟩] [0,3]) (.seq (.ops [⟨some 6,.mv (.c (.int .i64 0)),none,[]⟩,⟨some 7,.mv (.c (.int .i64 0)),none,[]⟩,⟨some 8,.mv (.c (.bool false)),none,[]⟩] [0,3,6,7,8]) (.seq (.ops [⟨some 15,.load 10 true (.t 3),none,[3]⟩,⟨some 16,.build [.int .i64 0,.int .i64 0,.int .i64 0,.int .i64 0,.int .i64 0,.int .i64 0,.int .i64 0,.int .i64 0,.int .i64 0,.int .i64 0,.int .i64 0] [(0,1,.c (.int .i64 0)),(1,10,.t 15)],none,[]⟩,⟨some 17,.mkrow 9 1 11 [.int .i64 0,.int .i64 0,.int .i64 0,.int .i64 0,.int .i64 0,.int .i64 0,.int .i64 0,.int .i64 0,.int .i64 0,.int .i64 0,.int .i64 0] [(0,11,.t 16)],none,[]⟩,⟨some 9,.mv (.t 17),none,[]⟩] [0,6,7,8,9]) (.seq (.block 0 (.loop (.keep [0,6,7,8,9] [9] c118_31))) (.seq (.ops [⟨some 86,.mv (.t 6),none,[]⟩,⟨some 87,.mv (.t 7),none,[]⟩,⟨some 4,.mv (.t 86),none,[]⟩,⟨some 5,.mv (.t 87),none,[]⟩] [4,5]) .ret))))
theorem r118_40:type_of% (rr c118_40.eq_1):=rr rfl
def a118:AFun:=⟨2,88,c118_40,[.t 4,.t 5]⟩
attribute [simp] r118_31 r118_40
theorem m118:mFun Tryz.prog Tryz.f118 a118=true:=by decide +kernel
def c80_22:ACode:=.seq (.ops [⟨some 43,.bin .lss (.t 42) (.t 41),none,[]⟩] [1,5,8,9,40,41,42,43]) (.seq (.cond (.t 43) .skip (.exit 0)) (.seq (.block 1 (.seq (.ops [⟨some 44,.ias (.t 40) (.t 42) 2,none,[]⟩,⟨some 45,.load 2 true (.t 44),none,[]⟩,⟨some 11,.alloc [.int .i64 0,.nils],none,[]⟩,⟨none,.store (.t 11) 2 (.t 45),none,[11]⟩] [1,5,8,9,11,40,41,42]) (.seq (.ops [⟨some 46,.fad (.t 11) 0,none,[11]⟩,⟨some 47,.load 1 false (.t 46),none,[11]⟩,⟨some 48,.mv (.t 1),none,[]⟩,⟨some 49,.bin .eql (.t 47) (.t 48),none,[]⟩] [1,5,8,9,11,40,41,42,49]) (.cond (.t 49) (.seq (.ops [⟨some 51,.fad (.t 11) 1,none,[11]⟩,⟨some 52,.load 1 false (.t 51),none,[11]⟩,⟨some 53,.load 10 true (.t 5),none,[5]⟩,⟨some 54,.call 118 [.t 52,.t 53],none,[]⟩,⟨some 50,.mv (.t 54),none,[]⟩,⟨some 55,.ext (.t 50) 0,none,[]⟩,⟨some 56,.ext (.t 50) 1,none,[]⟩,⟨some 12,.mv (.t 55),none,[]⟩,⟨some 13,.mv (.t 56),none,[]⟩] [1,5,8,9,12,13,40,41,42]) (.ops [⟨some 57,.mv (.t 8),none,[]⟩,⟨some 58,.mv (.t 12),none,[]⟩,⟨some 59,.bin .add (.t 57) (.t 58),none,[]⟩,⟨some 60,.mv (.t 9),none,[]⟩,⟨some 61,.mv (.t 13),none,[]⟩,⟨some 62,.bin .add (.t 60) (.t 61),none,[]⟩,⟨some 8,.mv (.t 59),none,[]⟩,⟨some 9,.mv (.t 62),none,[]⟩] [1,5,8,9,40,41,42])) .skip)))) (.ops [⟨some 63,.bin .add (.t 42) (.c (.int .i64 1)),none,[]⟩,⟨some 42,.mv (.t 63),none,[]⟩] [1,5,8,9,40,41,42])))
theorem r80_22:type_of% (rr c80_22.eq_1):=rr rfl
def c80_32:ACode:=.seq (.ops [⟨some 3,.box (.t 0) 6,none,[]⟩,⟨some 5,.box (.t 2) 10,none,[]⟩,⟨some 6,.mv (.c (.int .i64 0)),none,[]⟩,⟨some 7,.mv (.c (.int .i64 0)),none,[]⟩] [1,3,5]) (.seq (.seq (.ops [⟨some 14,.load 6 true (.t 3),none,[3]⟩,⟨some 15,.call 38 [.t 14],none,[]⟩,⟨some 16,.un .not (.t 15),none,[]⟩,⟨some 17,.mv (.t 16),none,[]⟩,⟨some 18,.mv (.t 1),some (17,false),[]⟩,⟨some 19,.bin .lss (.t 18) (.c (.int .i64 0)),some (17,false),[]⟩,⟨some 20,.pick (.t 17) (.c (.bool true)) (.t 19),none,[]⟩,⟨some 21,.mv (.t 20),none,[]⟩,⟨some 22,.mv (.t 1),some (21,false),[]⟩,⟨some 23,.fad (.t 3) 1,some (21,false),[3]⟩,⟨some 24,.load 1 false (.t 23),some (21,false),[3]⟩,⟨some 25,.bin .geq (.t 22) (.t 24),some (21,false),[]⟩,⟨some 26,.pick (.t 21) (.c (.bool true)) (.t 25),none,[]⟩,⟨some 27,.mv (.t 26),none,[]⟩,⟨some 28,.load 10 true (.t 5),some (27,false),[5]⟩,⟨some 29,.call 52 [.t 28],some (27,false),[]⟩,⟨some 30,.pick (.t 27) (.c (.bool true)) (.t 29),none,[]⟩] [1,3,5,30]) (.cond (.t 30) (.seq (.ops [⟨some 6,.mv (.c (.int .i64 0)),none,[]⟩,⟨some 7,.mv (.c (.int .i64 0)),none,[]⟩] [6,7]) .ret) .skip)) (.seq (.ops [⟨some 31,.mv (.t 1),none,[]⟩,⟨some 32,.fad (.t 3) 2,none,[3]⟩,⟨some 33,.iad (.t 32) (.t 31) 1 3,none,[3]⟩,⟨some 34,.load 1 false (.t 33),none,[3]⟩,⟨some 35,.mv (.t 1),none,[]⟩,⟨some 36,.fad (.t 3) 2,none,[3]⟩,⟨some 37,.iad (.t 36) (.t 35) 1 3,none,[3]⟩,⟨some 38,.load 1 false (.t 37),none,[3]⟩,⟨some 8,.mv (.t 34),none,[]⟩,⟨some 9,.mv (.t 38),none,[]⟩] [1,3,5,8,9]) (.seq (.seq (.ops [⟨some 39,.fad (.t 3) 5,none,[3]⟩,⟨some 40,.load 1 false (.t 39),none,[3]⟩,⟨some 41,.len (.t 40),none,[]⟩,⟨some 42,.mv (.c (.int .i64 0)),none,[]⟩] [1,5,8,9,40,41,42]) (.block 0 (.loop (.keep [1,5,8,9,40,41,42] [5] c80_22)))) (.seq (.ops [⟨some 64,.mv (.t 8),none,[]⟩,⟨some 65,.mv (.t 9),none,[]⟩,⟨some 6,.mv (.t 64),none,[]⟩,⟨some 7,.mv (.t 65),none,[]⟩] [6,7]) .ret))))
theorem r80_32:type_of% (rr c80_32.eq_1):=rr rfl
def a80:AFun:=⟨3,66,c80_32,[.t 6,.t 7]⟩
attribute [simp] r80_22 r80_32
theorem m80:mFun Tryz.prog Tryz.f80 a80=true:=by decide +kernel
structure Visit where
 at_:Int
 box:Box
instance:Row Visit where
 sz:=11
 enc x:=[.int .i64 x.at_,.int .i64 x.box.s0.lo,.int .i64 x.box.s0.hi,.int .i64 x.box.s1.lo,.int .i64 x.box.s1.hi,.int .i64 x.box.s2.lo,.int .i64 x.box.s2.hi,.int .i64 x.box.s3.lo,.int .i64 x.box.s3.hi,.int .i64 x.box.s4.lo,.int .i64 x.box.s4.hi]
 dec xs:=match xs with
  | [.int .i64 v0,.int .i64 v1,.int .i64 v2,.int .i64 v3,.int .i64 v4,.int .i64 v5,.int .i64 v6,.int .i64 v7,.int .i64 v8,.int .i64 v9,.int .i64 v10]=>some ⟨v0,⟨⟨v1,v2⟩,⟨v3,v4⟩,⟨v5,v6⟩,⟨v7,v8⟩,⟨v9,v10⟩⟩⟩
  | _=>none
 pos:=by decide
 len _:=rfl
 dec_enc _:=rfl
 enc_dec xs a h:=by
  split at h
  ·cases h;rfl
  ·cases h
@[simp] theorem sz_Visit:Row.sz Visit=11:=rfl
def vis (l:List Word) (b:Box) (s:Nat):Visit:=⟨s,own l b s⟩
theorem rd_top {α:Type} [Row α] (X:List α) (v:α) (G:List AV):rd (encL (X++[v])++G) (X.length*Row.sz α) (Row.sz α) true=some (.agg (Row.enc v)):=by
 have h1:=encL_length X
 have h2:=Row.len v
 rw[encL_append,List.append_assoc]
 unfold rd
 rw[if_pos (by simp[encL_cons,encL_nil,h1,h2])]
 simp only[if_true]
 rw[← h1,List.drop_left]
 simp only[encL_cons,encL_nil,List.append_nil]
 rw[← h2,List.take_left]
inductive Desc (l:List Word) (i:Nat):Nat→Prop
 | self:Desc l i i
 | left {j:Nat}:Desc l i j→(ndAt l j).leaf=false→Desc l i (ndAt l j).left.toNat
 | right {j:Nat}:Desc l i j→(ndAt l j).leaf=false→Desc l i (ndAt l j).right.toNat
theorem Desc.sub {l:List Word} {d:Int} (hr:RT l d) {b:Box} {i j:Nat} (h:Desc l i j) (hi:i<l.length):j<l.length∧∀ p t,InB (own l b j) p t→InB (own l b i) p t:=by
 induction h with
 | self=>exact⟨hi,fun p t h=>h⟩
 | @left j hd hl ih =>
  have ha:=hr.at ih.1 hl
  have hf:=hr.feature ih.1 hl
  have hc:=own_child hr b ih.1 hl
  refine⟨by omega,fun p t h=>ih.2 p t ?_⟩
  rw[hc.1] at h
  exact ((cutB_1 _ hf _ p t).1 h).1
 | @right j hd hl ih =>
  have ha:=hr.at ih.1 hl
  have hf:=hr.feature ih.1 hl
  have hc:=own_child hr b ih.1 hl
  refine⟨by omega,fun p t h=>ih.2 p t ?_⟩
  rw[hc.2] at h
  exact ((cutB_2 _ hf _ p t).1 h).1
theorem Desc.cases' {l:List Word} {i j:Nat} (h:Desc l i j):j=i∨((ndAt l i).leaf=false∧(Desc l (ndAt l i).left.toNat j∨Desc l (ndAt l i).right.toNat j)):=by
 induction h with
 | self=>exact .inl rfl
 | left hd hl ih =>
  rcases ih with rfl|⟨h1,h2|h2⟩
  ·exact .inr ⟨hl,.inl .self⟩
  ·exact .inr ⟨h1,.inl (h2.left hl)⟩
  ·exact .inr ⟨h1,.inr (h2.left hl)⟩
 | right hd hl ih =>
  rcases ih with rfl|⟨h1,h2|h2⟩
  ·exact .inr ⟨hl,.inr .self⟩
  ·exact .inr ⟨h1,.inl (h2.right hl)⟩
  ·exact .inr ⟨h1,.inr (h2.right hl)⟩
theorem desc_root {l:List Word} {d:Int} (hr:RT l d):∀ j,j<l.length→Desc l 0 j:=by
 intro j
 induction j using Nat.strongRecOn with
 | _ j ih =>
  intro hj
  by_cases h0:j=0
  ·subst h0;exact .self
  ·obtain⟨i,hi,hl,hn⟩:=hr.parent (show 1≤j by omega) hj
   have hd:=ih i hi (by omega)
   have ha:=hr.at (show i<l.length by omega) hl
   rcases hn with hn|hn
   ·have:=hd.left hl
    rw[show (ndAt l i).left.toNat=j by omega] at this
    exact this
   ·have:=hd.right hl
    rw[show (ndAt l i).right.toNat=j by omega] at this
    exact this
def wgt (s:Nat):Nat:=2^(32-s)-1
def wgts (S:List Nat):Nat:=(S.map wgt).sum
theorem wgts_app (S T:List Nat):wgts (S++T)=wgts S+wgts T:=by simp[wgts]
theorem wgt_pos {s:Nat} (h:s<31):1≤wgt s:=by
 unfold wgt
 have:2^1≤2^(32-s):=Nat.pow_le_pow_right (by omega) (by omega)
 omega
theorem wgt_two {s a b:Nat} (h1:s<a) (h2:s<b) (ha:a<31):wgt a+wgt b<wgt s:=by
 unfold wgt
 have e:32-s=(31-s)+1:=by omega
 have p1:2^(32-a)≤2^(31-s):=Nat.pow_le_pow_right (by omega) (by omega)
 have p2:2^(32-b)≤2^(31-s):=Nat.pow_le_pow_right (by omega) (by omega)
 have p3:1≤2^(31-s):=Nat.one_le_two_pow
 have p4:1≤2^(32-a):=Nat.one_le_two_pow
 have p5:1≤2^(32-b):=Nat.one_le_two_pow
 rw[e,Nat.pow_succ]
 omega
theorem len_wgts:∀(S:List Nat),(∀ s∈S,s<31)→S.length≤wgts S
 | [],_=>by simp[wgts]
 | s::S,h=>by
  have h1:=wgt_pos (h s (by simp))
  have h2:=len_wgts S (fun x hx=>h x (by simp[hx]))
  simp only[wgts,List.map_cons,List.sum_cons,List.length_cons] at *
  omega
structure EI (l:List Word) (b:Box) (S:List Nat) (lo hi:Int) (sm:Bool):Prop where
 lt:∀ s∈S,s<l.length
 cover:∀ j,j<l.length→(ndAt l j).leaf=true→(own l b j).empty=false→(sm=true∧lo≤(ndAt l j).value∧(ndAt l j).value≤hi)∨∃ s∈S,Desc l s j
 att:sm=true→(∃ x∈pieces l b,x.value=lo)∧∃ x∈pieces l b,x.value=hi
theorem EI.done {l:List Word} {d:Int} (hr:RT l d) {b:Box} (he:b.empty=false) {lo hi:Int} {sm:Bool} (h:EI l b [] lo hi sm):lo=(boundT l b).a∧hi=(boundT l b).b:=by
 have hb:boundT l b=ends (pieces l b):=by unfold boundT;rw[he];rfl
 obtain⟨h1,h2,⟨x,hx,h3⟩,⟨y,hy,h4⟩⟩:=ends_spec (pieces_ne hr he)
 rw[hb]
 have cov:∀ z∈pieces l b,sm=true∧lo≤z.value∧z.value≤hi:=by
  intro z hz
  obtain⟨i,hi',hl,hE,rfl⟩:=mem_pieces.1 hz
  rcases h.cover i hi' hl hE with hc|⟨s,hs,_⟩
  ·exact hc
  ·simp at hs
 have cx:=cov x hx
 have cy:=cov y hy
 obtain⟨⟨u,hu,hu2⟩,⟨v,hv,hv2⟩⟩:=h.att cx.1
 have k1:=h2 u hu
 have k2:=h2 v hv
 omega
noncomputable def EndsC (l:List Word) (b:Box):Option (Int×Int):=Part ((∃ d,RT l d)∧okB b∧b.empty=false) ((boundT l b).a,(boundT l b).b)
theorem take_vis (X:List Visit) (G:List AV) (n:Nat) (h:n=X.length*11):List.take n (encL X++G)=encL X:=by
 rw[h,← show (encL X).length=X.length*11 from encL_length X,List.take_left]
theorem runs_ends (l:List Word) (b:Box) (c:Int×Int) (h:EndsC l b=some c):Runs (tbl [(64,sp1 Unpack),(52,sp1 fun (b:Box)=>some b.empty),(68,sp3 CutB)]) a118 [Arg.enc l,Arg.enc b] (Arg.enc c):=by
 obtain⟨⟨⟨d,hr⟩,hb,he⟩,rfl⟩:=part_some h
 clear h
 refine⟨rfl,fun g=>run_def ?_⟩
 unfold a118
 have hle:=hr.le
 have b3:l.length≤maxN:=by unfold maxN;omega
 simp -implicitDefEqProofs [b3]
 refine run_while (c:=c118_31) (fun n s=>∃(S:List Nat) (lo hi:Int) (sm:Bool) (G:List AV) (g:Nat→Nat),n=wgts S∧n<2^33∧EI l b S lo hi sm∧s=⟨[(0,.lst l.length (encL l)),(6,.int .i64 lo),(7,.int .i64 hi),(8,.bool sm),(9,.own 9 (g 9) 0 S.length)],[(9,⟨encL (S.map (vis l b))++G,false,11⟩)],g⟩) (wgts [0]) ⟨[0],0,0,false,[],bump 9 (bump 3 g),rfl,by simp[wgts,wgt],⟨fun s hs=>by simp at hs;have:=hr.pos;omega,fun j hj _ _=>.inr ⟨0,by simp,desc_root hr j hj⟩,fun h=>by cases h⟩,by simp[encL_cons,encL_nil,vis,own_root];rfl⟩ ?_
 rintro n s ⟨S,lo,hi,sm,G,g,hn,hn2,hE,rfl⟩
 rcases List.eq_nil_or_concat S with rfl|⟨S,s,rfl⟩
 ·obtain⟨e1,e2⟩:=hE.done hr he
  simp -implicitDefEqProofs [e1,e2]
 rw[List.concat_eq_append] at *
 have hs:s<l.length:=hE.lt s (by simp)
 have hsl:=len_wgts S (fun x hx=>by have:=hE.lt x (by simp[hx]);omega)
 rw[wgts_app] at hn
 have hw1:=wgt_pos (show s<31 by omega)
 have hws:wgts [s]=wgt s:=by simp[wgts]
 have hL:S.length≤8589934592:=by have:(2:Nat)^33=8589934592:=(by decide);omega
 have wL:IntKind.i64.wrap ((S.length:Nat):Int)=S.length:=wrap64 (by omega) (by omega)
 have c0:S.length+1≤maxN:=by unfold maxN;omega
 have hU:=unpack_at hr hs
 have htop:rd (encL (S.map (vis l b))++(Row.enc (vis l b s)++G)) (S.length*11) 11 true=some (.agg (Row.enc (vis l b s))):=by
  have:=rd_top (S.map (vis l b)) (vis l b s) G
  rw[encL_append,List.append_assoc] at this
  simpa [encL_cons,encL_nil] using this
 have e1:encL ((S++[s]).map (vis l b))++G=encL (S.map (vis l b))++(Row.enc (vis l b s)++G):=by simp[encL_append,encL_cons,encL_nil]
 have e2:(S++[s]).length=S.length+1:=by simp
 rw[e1,e2]
 have htk:List.take (S.length*11) (encL (S.map (vis l b))++(Row.enc (vis l b s)++G))=encL (S.map (vis l b)):=take_vis _ _ _ (by simp)
 have hlen:S.length*11≤(encL (S.map (vis l b))++(Row.enc (vis l b s)++G)).length:=by
  have:=encL_length (S.map (vis l b))
  simp at this
  simp[this]
 generalize (Row.enc (vis l b s)++G)=G2 at *
 have hlen2:S.length*11≤(encL (S.map (vis l b))).length+G2.length:=by simpa using hlen
 have htop:rd (encL (S.map (vis l b))++G2) (S.length*11) 11 true=some (.agg [.int .i64 s,.int .i64 (own l b s).s0.lo,.int .i64 (own l b s).s0.hi,.int .i64 (own l b s).s1.lo,.int .i64 (own l b s).s1.hi,.int .i64 (own l b s).s2.lo,.int .i64 (own l b s).s2.hi,.int .i64 (own l b s).s3.lo,.int .i64 (own l b s).s3.hi,.int .i64 (own l b s).s4.lo,.int .i64 (own l b s).s4.hi]):=htop
 have hEc:∀ j,j<l.length→(ndAt l j).leaf=true→(own l b j).empty=false→(sm=true∧lo≤(ndAt l j).value∧(ndAt l j).value≤hi)∨(∃ x∈S,Desc l x j)∨Desc l s j:=by
  intro j h1 h2 h3
  rcases hE.cover j h1 h2 h3 with h|⟨x,hx,hd⟩
  ·exact .inl h
  ·rcases List.mem_append.1 hx with hx|hx
   ·exact .inr (.inl ⟨x,hx,hd⟩)
   ·simp at hx;subst hx;exact .inr (.inr hd)
 have hlt:∀ x∈S,x<l.length:=fun x hx=>hE.lt x (by simp[hx])
 have c9:(S.length:Int)<(S.length:Int)+1:=by omega
 have c10:(S.length:Int)≤(S.length:Int)+1:=by omega
 have hlw:wgts [s]=wgt s:=hws
 cases hoe:(own l b s).empty
 case true =>
  have hE2:EI l b S lo hi sm:=by
   refine⟨hlt, ?_,hE.att⟩
   intro j h1 h2 h3
   rcases hEc j h1 h2 h3 with h|h|h
   ·exact .inl h
   ·exact .inr h
   ·exfalso
    obtain⟨p,t,hp⟩:=empty_false.1 h3
    exact empty_true.1 hoe p t ((h.sub hr hs).2 p t hp)
  cases sm<;>simp -implicitDefEqProofs [c0,c9,c10,wL,htop,hU,hs,rd_words,hoe]
  all_goals exact⟨wgts S,by omega,S,rfl,by omega,lo,hi,hE2,⟨rfl,rfl,rfl⟩,G2,rfl⟩
 case false =>
  cases hl:(ndAt l s).leaf
  case false =>
   have ha:=hr.at hs hl
   have hf:=hr.feature hs hl
   have hC:CutB (own l b s) (ndAt l s).feature (ndAt l s).cut=some (cutB (own l b s) (ndAt l s).feature (ndAt l s).cut):=cutB_of (okB_own hr hb s s (by omega)) (ndAt l s).feature (ok64_fits (hr.cutOk hs))
   have hch:=own_child hr b hs hl
   have hpr:cutB (own l b s) (ndAt l s).feature (ndAt l s).cut=(own l b (ndAt l s).left.toNat,own l b (ndAt l s).right.toNat):=Prod.ext hch.1.symm hch.2.symm
   rw[hpr] at hC
   have c11:S.length≤1099511627774:=by omega
   have hw2:=wgt_two (s:=s) (a:=(ndAt l s).left.toNat) (b:=(ndAt l s).right.toNat) (by omega) (by omega) (by omega)
   have hw3:wgts (S++[(ndAt l s).left.toNat,(ndAt l s).right.toNat])=wgts S+(wgt (ndAt l s).left.toNat+wgt (ndAt l s).right.toNat):=by rw[wgts_app];simp[wgts]
   have hE2:EI l b (S++[(ndAt l s).left.toNat,(ndAt l s).right.toNat]) lo hi sm:=by
    refine⟨?_, ?_,hE.att⟩
    ·intro x hx
     rcases List.mem_append.1 hx with hx|hx
     ·exact hlt x hx
     ·simp at hx
      omega
    ·intro j h1 h2 h3
     rcases hEc j h1 h2 h3 with h|⟨x,hx,h⟩|h
     ·exact .inl h
     ·exact .inr ⟨x,by simp[hx],h⟩
     ·rcases Desc.cases' h with h|⟨_,h|h⟩
      ·subst h;rw[hl] at h2;cases h2
      ·exact .inr ⟨_,by simp,h⟩
      ·exact .inr ⟨_,by simp,h⟩
   have el:(((ndAt l s).left.toNat:Nat):Int)=(ndAt l s).left:=by omega
   have er:(((ndAt l s).right.toNat:Nat):Int)=(ndAt l s).right:=by omega
   have hcell:encL (S.map (vis l b))++(Row.enc (vis l b (ndAt l s).left.toNat)++Row.enc (vis l b (ndAt l s).right.toNat))=encL ((S++[(ndAt l s).left.toNat,(ndAt l s).right.toNat]).map (vis l b))++[]:=by simp[encL_append,encL_cons,encL_nil]
   cases sm<;>simp -implicitDefEqProofs [c0,c9,c10,c11,wL,htop,hU,hs,rd_words,hoe,hl,hC,htk,hlen2]
   all_goals refine⟨_, ?_,S++[(ndAt l s).left.toNat,(ndAt l s).right.toNat],rfl, ?_,lo,hi,hE2,⟨rfl,rfl, ?_⟩,[], ?_⟩
   all_goals first
    | omega
    | (simp;done)
    | (rw[← hcell,← el,← er];rfl)
  case true =>
   have hpc:(⟨own l b s,(ndAt l s).value⟩:Piece)∈pieces l b:=mem_pieces.2 ⟨s,hs,hl,hoe,rfl⟩
   cases sm
   case false =>
    have hE2:EI l b S (ndAt l s).value (ndAt l s).value true:=by
     refine⟨hlt, ?_,fun _=>⟨⟨_,hpc,rfl⟩,⟨_,hpc,rfl⟩⟩⟩
     intro j h1 h2 h3
     rcases hEc j h1 h2 h3 with⟨h,_⟩|h|h
     ·cases h
     ·exact .inr h
     ·rcases Desc.cases' h with h|⟨h,_⟩
      ·subst h;exact .inl ⟨rfl,Int.le_refl _,Int.le_refl _⟩
      ·rw[hl] at h;cases h
    simp -implicitDefEqProofs [c0,c9,c10,wL,htop,hU,hs,rd_words,hoe,hl]
    exact⟨wgts S,by omega,S,rfl,by omega,_,_,hE2,⟨rfl,rfl,rfl⟩,G2,rfl⟩
   case true =>
    obtain⟨⟨u,hu,hu2⟩,⟨v,hv,hv2⟩⟩:=hE.att rfl
    have hE2:EI l b S (if (ndAt l s).value<lo then (ndAt l s).value else lo) (if hi<(ndAt l s).value then (ndAt l s).value else hi) true:=by
     refine⟨hlt, ?_, ?_⟩
     ·intro j h1 h2 h3
      rcases hEc j h1 h2 h3 with⟨_,h,h'⟩|h|h
      ·refine .inl ⟨rfl, ?_, ?_⟩<;>split<;>omega
      ·exact .inr h
      ·rcases Desc.cases' h with h|⟨h,_⟩
       ·subst h;refine .inl ⟨rfl, ?_, ?_⟩<;>split<;>omega
       ·rw[hl] at h;cases h
     ·intro _
      constructor
      ·split
       ·exact⟨_,hpc,rfl⟩
       ·exact⟨u,hu,hu2⟩
      ·split
       ·exact⟨_,hpc,rfl⟩
       ·exact⟨v,hv,hv2⟩
    simp -implicitDefEqProofs [c0,c9,c10,wL,htop,hU,hs,rd_words,hoe,hl]
    exact⟨wgts S,by omega,S,rfl,by omega,_,_,hE2,⟨rfl,rfl,rfl⟩,G2,rfl⟩
theorem c_ends:Contract Tryz.prog 118 (sp2 EndsC) :=
 contract_of_runs mixed (tbl_cons c_Unpack (tbl_cons c_bEmpty (tbl_cons c_bCut tbl_nil))) Tryz.func118 m118 (sp2_runs runs_ends)
def sumsP (m:Model) (c:Int) (b:Box):Int×Int:=if c<0∨m.classes≤c∨b.empty=true then (0,0) else boundP m c b
noncomputable def SumsC (m:Model) (c:Int) (b:Box):Option (Int×Int):=Part (RM m∧okB b) (sumsP m c b)
theorem runs_sums (m:Model) (c:Int) (b:Box) (r:Int×Int) (h:SumsC m c b=some r):Runs (tbl [(38,sp1 MRight),(52,sp1 fun (b:Box)=>some b.empty),(118,sp2 EndsC)]) a80 [Arg.enc m,Arg.enc c,Arg.enc b] (Arg.enc r):=by
 obtain⟨⟨hr,hb⟩,rfl⟩:=part_some h
 refine⟨rfl,fun g=>run_def ?_⟩
 unfold a80
 have hM:MRight m=some true:=by unfold MRight;rw[if_neg (by have:=hr.dim;omega)];exact part_of hr _
 by_cases h0:c<0
 case pos=>simp -implicitDefEqProofs [hM,h0,sumsP]
 by_cases h1:m.classes≤c
 case pos=>simp -implicitDefEqProofs [hM,h0,h1,sumsP]
 cases he:b.empty
 case true=>simp -implicitDefEqProofs [hM,h0,h1,he,sumsP]
 have hle:=hr.trees
 have b3:m.trees.length≤maxN:=by unfold maxN;omega
 have c0:0≤c:=by omega
 have c3:c<3:=by have:=hr.classes;omega
 have hres:sumsP m c b=((boundP m c b).1,(boundP m c b).2):=by unfold sumsP;rw[if_neg (by simp[he];omega)]
 rw[hres]
 simp -implicitDefEqProofs [hM,h0,h1,he,b3,c0,c3]
 refine run_while (c:=c80_22) (fun n s=>∃(i:Nat) (g:Nat→Nat),i+n=m.trees.length∧s=⟨[(1,.int .i64 c),(5,.ptr 5 (g 5) 0),(8,.int .i64 ((m.trees.take i).foldl (boundF c b) (m.bias.get c,m.bias.get c)).1),(9,.int .i64 ((m.trees.take i).foldl (boundF c b) (m.bias.get c,m.bias.get c)).2),(40,.lst m.trees.length (encL m.trees)),(41,.int .i64 m.trees.length),(42,.int .i64 i)],
  [(5,⟨[.int .i64 b.s0.lo,.int .i64 b.s0.hi,.int .i64 b.s1.lo,.int .i64 b.s1.hi,.int .i64 b.s2.lo,.int .i64 b.s2.hi,.int .i64 b.s3.lo,.int .i64 b.s3.hi,.int .i64 b.s4.lo,.int .i64 b.s4.hi],false,0⟩)],g⟩) m.trees.length ⟨0,bump 5 (bump 3 g),by omega,by simp⟩ ?_
 rintro n s ⟨i,g,hi,rfl⟩
 by_cases h1:i<m.trees.length
 case pos =>
  have w1:IntKind.i64.wrap ((i:Int)+1)=(i:Int)+1:=wrap64 (by omega) (by omega)
  have hrow:=rd_tree m.trees i h1
  have hrt:=hr.rt (List.getElem_mem h1)
  have hV:EndsC m.trees[i].nodes b=some ((boundT m.trees[i].nodes b).a,(boundT m.trees[i].nodes b).b):=part_of ⟨⟨_,hrt⟩,hb,he⟩ _
  have hbd:=boundF_le (c:=c) he (m.trees.take (i+1)) (m.bias.get c,m.bias.get c) (fun t ht=>⟨_,hr.rt (List.mem_of_mem_take ht)⟩)
  have hb2:=of_fits (Bias.get_fits hr c)
  have hs:(m.trees.take (i+1)).foldl (boundF c b) (m.bias.get c,m.bias.get c)=boundF c b ((m.trees.take i).foldl (boundF c b) (m.bias.get c,m.bias.get c)) m.trees[i]:=by
   rw[List.take_succ_eq_append_getElem h1,List.foldl_append]
   rfl
  have hl:(m.trees.take (i+1)).length≤8:=by simp;omega
  simp only at hbd
  by_cases hc:m.trees[i].cls=c
  case pos =>
   have hs1:((m.trees.take (i+1)).foldl (boundF c b) (m.bias.get c,m.bias.get c)).1=((m.trees.take i).foldl (boundF c b) (m.bias.get c,m.bias.get c)).1+(boundT m.trees[i].nodes b).a:=by rw[hs,boundF,if_pos hc]
   have hs2:((m.trees.take (i+1)).foldl (boundF c b) (m.bias.get c,m.bias.get c)).2=((m.trees.take i).foldl (boundF c b) (m.bias.get c,m.bias.get c)).2+(boundT m.trees[i].nodes b).b:=by rw[hs,boundF,if_pos hc]
   have w2:IntKind.i64.wrap (((m.trees.take i).foldl (boundF c b) (m.bias.get c,m.bias.get c)).1+(boundT m.trees[i].nodes b).a)=((m.trees.take (i+1)).foldl (boundF c b) (m.bias.get c,m.bias.get c)).1:=by rw[← hs1];exact wrap64 (by omega) (by omega)
   have w3:IntKind.i64.wrap (((m.trees.take i).foldl (boundF c b) (m.bias.get c,m.bias.get c)).2+(boundT m.trees[i].nodes b).b)=((m.trees.take (i+1)).foldl (boundF c b) (m.bias.get c,m.bias.get c)).2:=by rw[← hs2];exact wrap64 (by omega) (by omega)
   simp -implicitDefEqProofs [h1,hrow,hc,hV,w1,w2,w3]
   exact⟨n-1,by omega,i+1,by omega,rfl,rfl,by omega⟩
  case neg =>
   have hs2:(m.trees.take (i+1)).foldl (boundF c b) (m.bias.get c,m.bias.get c)=(m.trees.take i).foldl (boundF c b) (m.bias.get c,m.bias.get c):=by rw[hs,boundF,if_neg hc]
   simp -implicitDefEqProofs [h1,hrow,hc,hV,w1]
   exact⟨n-1,by omega,i+1,by omega,by rw[hs2],by rw[hs2],by omega⟩
 case neg =>
  have hil:i=m.trees.length:=by omega
  subst hil
  simp -implicitDefEqProofs [h1,boundP]
theorem c_sums:Contract Tryz.prog 80 (sp3 SumsC) :=
 contract_of_runs mixed (tbl_cons c_mRight (tbl_cons c_bEmpty (tbl_cons c_ends tbl_nil))) Tryz.func80 m80 (sp3_runs runs_sums)
end Go.Co
/- CO: a search, as it goes; the document's own search. -/
namespace Go.Co
open Go.Am Go.Proofs
attribute [-simp] Go.Am.eff_gcall
def zeroP:Point:=⟨0,0,0,0⟩
def sumS:Step:=⟨true,0,0⟩
def searchN (m:Model) (q:Query):Nat→Int→List Box→List Step→Verdict
 | _,sp,[],pf=>⟨1,pf,zeroP,0,sp⟩
 | 0,sp,_::_,_=>⟨3,[],zeroP,0,sp⟩
 | n+1,sp,b::bs,pf =>
  if closedM m q b then searchN m q n (sp+1) bs (pf++[sumS]) else
  if corner m q b then ⟨2,[],lowB b,b.s4.hi,sp+1⟩ else
  if (splitM m q b).c then searchN m q n (sp+1) ((cutB b (splitM m q b).a (splitM m q b).b).1::(cutB b (splitM m q b).a (splitM m q b).b).2::bs) (pf++[⟨false,(splitM m q b).a,(splitM m q b).b⟩]) else ⟨3,[],zeroP,0,sp+1⟩
def searchM (m:Model) (q:Query):Verdict:=if okQuery m q then searchN m q q.budget.toNat 0 [startOf q] [] else ⟨4,[],zeroP,0,0⟩
theorem split_in {m:Model} {q:Query} {b:Box} (h:(splitM m q b).c=true):0≤(splitM m q b).a∧(splitM m q b).a<5∧(splitM m q b).b∈cutsL m q b (splitM m q b).a:=by
 unfold splitM at *
 rcases splitFrom_spec m q b [0,1,2,3,4] with⟨h1,_⟩|⟨l,r,k,h1,h2,h3,h4⟩
 ·rw[h1] at h;cases h
 ·rw[h4]
  simp only
  have hk:k∈([0,1,2,3,4]:List Int):=by rw[h1];simp
  simp at hk
  refine⟨by omega,by omega, ?_⟩
  unfold midL
  have hp:0<(cutsL m q b k).length:=List.length_pos_iff.2 (by first|exact h2|exact h3)
  have hlt:((cutsL m q b k).length-1)/2<(cutsL m q b k).length:=by omega
  rw[List.getD_eq_getElem?_getD,List.getElem?_eq_getElem hlt]
  exact List.getElem_mem hlt
theorem okQuery_start {m:Model} {q:Query} (h:okQuery m q=true):smallB (startOf q)∧okB (startOf q)∧(startOf q).empty=false:=by
 have hs:=(okQuery_spec h).2.2.2.2.1
 unfold okRegion okSpan at hs
 simp only[Bool.and_eq_true,Bool.not_eq_true'] at hs
 obtain⟨⟨⟨⟨a0,a1⟩,a2⟩,a3⟩,a4⟩:=hs
 have key:∀ s:Span,s.empty=false→fits s.lo=true→fits s.hi=true→small s∧s.lo≤s.hi:=fun s h1 h2 h3=>by
  have h2:=of_fits h2
  have h3:=of_fits h3
  unfold Span.empty at h1
  rw[decide_eq_false_iff_not] at h1
  unfold small
  omega
 have k0:=key _ a0.1.1.2 a0.1.2 a0.2
 have k1:=key _ a1.1.1.2 a1.1.2 a1.2
 have k2:=key _ a2.1.1.2 a2.1.2 a2.2
 have k3:=key _ a3.1.1.2 a3.1.2 a3.2
 have k4:small (startOf q).s4∧(startOf q).s4.lo≤(startOf q).s4.hi:=by
  unfold startOf
  simp only
  split
  ·rename_i hp
   have hf:=paired_feature hp
   rcases hf with hf|hf|hf|hf<;>rw[hf]<;>simp only[Box.get,reduceIte,Int.reduceEq]<;>assumption
  ·unfold small;simp
 have hsm:smallB (startOf q):=⟨k0.1,k1.1,k2.1,k3.1,k4.1⟩
 have hne:(startOf q).empty=false:=by
  refine empty_get.2 fun i i0 i5=>?_
  have hi:i=0∨i=1∨i=2∨i=3∨i=4:=by omega
  rcases hi with rfl|rfl|rfl|rfl|rfl
  ·exact k0.2
  ·exact k1.2
  ·exact k2.2
  ·exact k3.2
  ·exact k4.2
 exact⟨hsm,small_ok hsm hne,hne⟩
def vCells (v:Verdict) (V:AV):List AV:=[.int .i64 v.kind,V,.int .i64 v.witness.p0,.int .i64 v.witness.p1,.int .i64 v.witness.p2,.int .i64 v.witness.p3,.int .i64 v.twin,.int .i64 v.spent]
structure SEnd (v:Verdict) (g0:Nat) (h:Hp) (g:Nat→Nat):Prop where
 zero:g 0=g0
 val:(v.proof=[]∧hlook h 4=some ⟨vCells v .nils,false,0⟩)∨(v.proof≠[]∧hlook h 4=some ⟨vCells v (.own 10601 (g 10601) 0 v.proof.length),false,0⟩∧hlook h 10601=some ⟨encL v.proof,false,3⟩)
theorem take_stepsE (X:List Step):List.take (X.length*3) (encL X)=encL X:=take_rows _ _ (by simp)
theorem len_steps (X:List Step):X.length*3≤(encL X).length:=by rw[encL_length];exact Nat.le_refl _
theorem take_boxG (X:List Box) (G:List AV):List.take (X.length*10) (encL X++G)=encL X:=by
 have:(encL X).length=X.length*10:=encL_length X
 rw[← this,List.take_left]
theorem len_boxG (X:List Box) (G:List AV):X.length*10≤(encL X++G).length:=by rw[List.length_append,encL_length];exact Nat.le_add_right _ _
end Go.Co
/- CO: proofs' steps: how deep they go, the boxes that are closed by sums; what is shown. -/
set_option maxHeartbeats 16000000
set_option maxRecDepth 100000
namespace Go.Co
open Go.Am Go.Proofs
attribute [-simp] Go.Am.eff_gcall
def c155_9:ACode:=.seq (.ops [⟨some 1,.box (.t 0) 3,none,[]⟩,⟨some 2,.mv (.c (.bool false)),none,[]⟩] [1]) (.seq (.seq (.ops [⟨some 3,.fad (.t 1) 0,none,[1]⟩,⟨some 4,.load 1 false (.t 3),none,[1]⟩] [1,4]) (.cond (.t 4) (.seq (.ops [⟨some 5,.load 3 true (.t 1),none,[1]⟩,⟨some 6,.build [.bool false,.int .i64 0,.int .i64 0] [(0,1,.c (.bool true))],none,[]⟩,⟨some 7,.eqa false [true,false,false] (.t 5) (.t 6),none,[]⟩,⟨some 2,.mv (.t 7),none,[]⟩] [2]) .ret) .skip)) (.seq (.ops [⟨some 8,.fad (.t 1) 1,none,[1]⟩,⟨some 9,.load 1 false (.t 8),none,[1]⟩,⟨some 10,.bin .geq (.t 9) (.c (.int .i64 0)),none,[]⟩,⟨some 11,.mv (.t 10),none,[]⟩,⟨some 12,.fad (.t 1) 1,some (11,true),[1]⟩,⟨some 13,.load 1 false (.t 12),some (11,true),[1]⟩,⟨some 14,.bin .leq (.t 13) (.c (.int .i64 4)),some (11,true),[]⟩,⟨some 15,.pick (.t 11) (.t 14) (.c (.bool false)),none,[]⟩,⟨some 2,.mv (.t 15),none,[]⟩] [2]) .ret))
theorem r155_9:type_of% (rr c155_9.eq_1):=rr rfl
def a155:AFun:=⟨1,16,c155_9,[.t 2]⟩
attribute [simp] r155_9
theorem m155:mFun Tryz.prog Tryz.f155 a155=true:=by decide +kernel
def c117_31:ACode:=.seq (.ops [⟨some 13,.bin .lss (.t 12) (.t 11),none,[]⟩] [3,4,10,11,12,13]) (.seq (.cond (.t 13) .skip (.exit 0)) (.seq (.block 1 (.seq (.ops [⟨some 14,.ias (.t 10) (.t 12) 3,none,[]⟩,⟨some 15,.load 3 true (.t 14),none,[]⟩,⟨some 6,.alloc [.bool false,.int .i64 0,.int .i64 0],none,[]⟩,⟨none,.store (.t 6) 3 (.t 15),none,[6]⟩] [3,4,6,10,11,12]) (.seq (.seq (.ops [⟨some 16,.mv (.t 3),none,[]⟩,⟨some 17,.bin .eql (.t 16) (.c (.int .i64 0)),none,[]⟩,⟨some 18,.mv (.t 17),none,[]⟩,⟨some 19,.load 3 true (.t 6),some (18,false),[6]⟩,⟨some 20,.call 155 [.t 19],some (18,false),[]⟩,⟨some 21,.un .not (.t 20),some (18,false),[]⟩,⟨some 22,.pick (.t 18) (.c (.bool true)) (.t 21),none,[]⟩] [3,4,6,10,11,12,22]) (.cond (.t 22) (.seq (.ops [⟨some 2,.mv (.c (.int .i64 0)),none,[]⟩] [2]) .ret) .skip)) (.seq (.seq (.ops [⟨some 23,.fad (.t 6) 0,none,[6]⟩,⟨some 24,.load 1 false (.t 23),none,[6]⟩] [3,4,10,11,12,24]) (.cond (.t 24) (.seq (.ops [⟨some 25,.mv (.t 3),none,[]⟩,⟨some 26,.bin .sub (.t 25) (.c (.int .i64 1)),none,[]⟩,⟨some 3,.mv (.t 26),none,[]⟩] [3,4,10,11,12]) (.exit 1)) .skip)) (.seq (.ops [⟨some 27,.mv (.t 3),none,[]⟩,⟨some 28,.bin .add (.t 27) (.c (.int .i64 1)),none,[]⟩,⟨some 3,.mv (.t 28),none,[]⟩] [3,4,10,11,12]) (.ops [⟨some 29,.mv (.t 4),none,[]⟩,⟨some 30,.mv (.t 3),none,[]⟩,⟨some 31,.mnmx true (.t 29) (.t 30),none,[]⟩,⟨some 4,.mv (.t 31),none,[]⟩] [3,4,10,11,12])))))) (.ops [⟨some 32,.bin .add (.t 12) (.c (.int .i64 1)),none,[]⟩,⟨some 12,.mv (.t 32),none,[]⟩] [3,4,10,11,12])))
theorem r117_31:type_of% (rr c117_31.eq_1):=rr rfl
def c117_47:ACode:=.seq (.ops [⟨some 2,.mv (.c (.int .i64 0)),none,[]⟩] [0]) (.seq (.seq (.ops [⟨some 7,.mv (.t 0),none,[]⟩,⟨some 8,.len (.t 7),none,[]⟩,⟨some 9,.bin .gtr (.t 8) (.c (.int .i64 65536)),none,[]⟩] [0,9]) (.cond (.t 9) (.seq (.ops [⟨some 2,.mv (.c (.int .i64 0)),none,[]⟩] [2]) .ret) .skip)) (.seq (.ops [⟨some 3,.mv (.c (.int .i64 1)),none,[]⟩,⟨some 4,.mv (.c (.int .i64 1)),none,[]⟩] [0,3,4]) (.seq (.seq (.ops [⟨some 10,.mv (.t 0),none,[]⟩,⟨some 11,.len (.t 10),none,[]⟩,⟨some 12,.mv (.c (.int .i64 0)),none,[]⟩] [3,4,10,11,12]) (.block 0 (.loop (.keep [3,4,10,11,12] [] c117_31)))) (.seq (.seq (.ops [⟨some 33,.mv (.t 3),none,[]⟩,⟨some 34,.bin .neq (.t 33) (.c (.int .i64 0)),none,[]⟩,⟨some 35,.mv (.t 34),none,[]⟩,⟨some 36,.mv (.t 4),some (35,false),[]⟩,⟨some 37,.bin .gtr (.t 36) (.c (.int .i64 200)),some (35,false),[]⟩,⟨some 38,.pick (.t 35) (.c (.bool true)) (.t 37),none,[]⟩] [4,38]) (.cond (.t 38) (.seq (.ops [⟨some 2,.mv (.c (.int .i64 0)),none,[]⟩] [2]) .ret) .skip)) (.seq (.ops [⟨some 39,.mv (.t 4),none,[]⟩,⟨some 2,.mv (.t 39),none,[]⟩] [2]) .ret)))))
theorem r117_47:type_of% (rr c117_47.eq_1):=rr rfl
def a117:AFun:=⟨1,40,c117_47,[.t 2]⟩
attribute [simp] r117_31 r117_47
theorem m117:mFun Tryz.prog Tryz.f117 a117=true:=by decide +kernel
def c79_3:ACode:=.seq (.ops [⟨some 2,.mv (.c (.bool false)),none,[]⟩] [0]) (.seq (.ops [⟨some 3,.mv (.t 0),none,[]⟩,⟨some 4,.call 117 [.t 3],none,[]⟩,⟨some 5,.bin .gtr (.t 4) (.c (.int .i64 0)),none,[]⟩,⟨some 2,.mv (.t 5),none,[]⟩] [2]) .ret)
theorem r79_3:type_of% (rr c79_3.eq_1):=rr rfl
def a79:AFun:=⟨1,6,c79_3,[.t 2]⟩
attribute [simp] r79_3
theorem m79:mFun Tryz.prog Tryz.f79 a79=true:=by decide +kernel
def c49_38:ACode:=.seq (.ops [⟨some 22,.bin .lss (.t 21) (.t 20),none,[]⟩] [6,7,19,20,21,22]) (.seq (.cond (.t 22) .skip (.exit 0)) (.seq (.block 1 (.seq (.ops [⟨some 23,.ias (.t 19) (.t 21) 3,none,[]⟩,⟨some 24,.load 3 true (.t 23),none,[]⟩,⟨some 9,.alloc [.bool false,.int .i64 0,.int .i64 0],none,[]⟩,⟨none,.store (.t 9) 3 (.t 24),none,[9]⟩] [6,7,9,19,20,21]) (.seq (.ops [⟨some 25,.mv (.t 6),none,[]⟩,⟨some 26,.len (.t 25),none,[6]⟩,⟨some 27,.bin .sub (.t 26) (.c (.int .i64 1)),none,[]⟩,⟨some 10,.mv (.t 27),none,[]⟩] [6,7,9,10,19,20,21]) (.seq (.ops [⟨some 28,.mv (.t 6),none,[]⟩,⟨some 29,.mv (.t 10),none,[]⟩,⟨some 30,.ias (.t 28) (.t 29) 10,none,[6]⟩,⟨some 31,.load 10 true (.t 30),none,[6]⟩,⟨some 11,.alloc [.int .i64 0,.int .i64 0,.int .i64 0,.int .i64 0,.int .i64 0,.int .i64 0,.int .i64 0,.int .i64 0,.int .i64 0,.int .i64 0],none,[]⟩,⟨none,.store (.t 11) 10 (.t 31),none,[11]⟩] [6,7,9,10,11,19,20,21]) (.seq (.ops [⟨some 32,.mv (.t 6),none,[]⟩,⟨some 33,.mv (.t 10),none,[]⟩,⟨some 34,.sl (.t 32) none (some (.t 33)) 10,none,[6]⟩,⟨some 6,.mv (.t 34),none,[]⟩] [6,7,9,11,19,20,21]) (.seq (.seq (.ops [⟨some 35,.fad (.t 9) 0,none,[9]⟩,⟨some 36,.load 1 false (.t 35),none,[9]⟩] [6,7,9,11,19,20,21,36]) (.cond (.t 36) (.seq (.ops [⟨some 37,.mv (.t 7),none,[]⟩,⟨some 38,.load 10 true (.t 11),none,[11]⟩,⟨some 39,.mkrow 39 1 10 [.int .i64 0,.int .i64 0,.int .i64 0,.int .i64 0,.int .i64 0,.int .i64 0,.int .i64 0,.int .i64 0,.int .i64 0,.int .i64 0] [(0,10,.t 38)],none,[]⟩,⟨some 40,.app 7 [7] (.t 37) (.t 39) 10,none,[7,39]⟩,⟨some 7,.mv (.t 40),none,[]⟩] [6,7,19,20,21]) (.exit 1)) .skip)) (.seq (.seq (.ops [⟨some 41,.fad (.t 9) 2,none,[9]⟩,⟨some 42,.load 1 false (.t 41),none,[9]⟩,⟨some 43,.fad (.t 9) 1,none,[9]⟩,⟨some 44,.load 1 false (.t 43),none,[9]⟩,⟨some 45,.iad (.t 11) (.t 44) 2 5,none,[11]⟩,⟨some 46,.fad (.t 45) 0,none,[11]⟩,⟨some 47,.load 1 false (.t 46),none,[11]⟩,⟨some 48,.bin .lss (.t 42) (.t 47),none,[]⟩,⟨some 49,.mv (.t 48),none,[]⟩,⟨some 50,.fad (.t 9) 2,some (49,false),[9]⟩,⟨some 51,.load 1 false (.t 50),some (49,false),[9]⟩,⟨some 52,.fad (.t 9) 1,some (49,false),[9]⟩,⟨some 53,.load 1 false (.t 52),some (49,false),[9]⟩,⟨some 54,.iad (.t 11) (.t 53) 2 5,some (49,false),[11]⟩,⟨some 55,.fad (.t 54) 1,some (49,false),[11]⟩,⟨some 56,.load 1 false (.t 55),some (49,false),[11]⟩,⟨some 57,.bin .geq (.t 51) (.t 56),some (49,false),[]⟩,⟨some 58,.pick (.t 49) (.c (.bool true)) (.t 57),none,[]⟩] [6,7,9,11,19,20,21,58]) (.cond (.t 58) (.seq (.ops [⟨some 4,.mv (.c (.nils)),none,[]⟩,⟨some 5,.mv (.c (.bool false)),none,[]⟩] [4,5]) .ret) .skip)) (.seq (.ops [⟨some 60,.load 10 true (.t 11),none,[11]⟩,⟨some 61,.fad (.t 9) 1,none,[9]⟩,⟨some 62,.load 1 false (.t 61),none,[9]⟩,⟨some 63,.fad (.t 9) 2,none,[9]⟩,⟨some 64,.load 1 false (.t 63),none,[9]⟩,⟨some 65,.call 68 [.t 60,.t 62,.t 64],none,[]⟩,⟨some 59,.mv (.t 65),none,[]⟩,⟨some 66,.ext (.t 59) 0,none,[]⟩,⟨some 67,.ext (.t 59) 1,none,[]⟩,⟨some 12,.alloc [.int .i64 0,.int .i64 0,.int .i64 0,.int .i64 0,.int .i64 0,.int .i64 0,.int .i64 0,.int .i64 0,.int .i64 0,.int .i64 0],none,[]⟩,⟨some 13,.alloc [.int .i64 0,.int .i64 0,.int .i64 0,.int .i64 0,.int .i64 0,.int .i64 0,.int .i64 0,.int .i64 0,.int .i64 0,.int .i64 0],none,[]⟩,⟨none,.store (.t 12) 10 (.t 66),none,[12]⟩,⟨none,.store (.t 13) 10 (.t 67),none,[13]⟩] [6,7,12,13,19,20,21]) (.ops [⟨some 68,.mv (.t 6),none,[]⟩,⟨some 69,.load 10 true (.t 13),none,[13]⟩,⟨some 70,.load 10 true (.t 12),none,[12]⟩,⟨some 71,.mkrow 71 2 10 [.int .i64 0,.int .i64 0,.int .i64 0,.int .i64 0,.int .i64 0,.int .i64 0,.int .i64 0,.int .i64 0,.int .i64 0,.int .i64 0] [(0,10,.t 69),(10,10,.t 70)],none,[]⟩,⟨some 72,.app 6 [6] (.t 68) (.t 71) 10,none,[6,71]⟩,⟨some 6,.mv (.t 72),none,[]⟩] [6,7,19,20,21]))))))))) (.ops [⟨some 73,.bin .add (.t 21) (.c (.int .i64 1)),none,[]⟩,⟨some 21,.mv (.t 73),none,[]⟩] [6,7,19,20,21])))
theorem r49_38:type_of% (rr c49_38.eq_1):=rr rfl
def c49_49:ACode:=.seq (.ops [⟨some 2,.box (.t 0) 10,none,[]⟩,⟨some 4,.mv (.c (.nils)),none,[]⟩,⟨some 5,.mv (.c (.bool false)),none,[]⟩] [1,2]) (.seq (.seq (.ops [⟨some 14,.mv (.t 1),none,[]⟩,⟨some 15,.call 79 [.t 14],none,[]⟩,⟨some 16,.un .not (.t 15),none,[]⟩] [1,2,16]) (.cond (.t 16) (.seq (.ops [⟨some 4,.mv (.c (.nils)),none,[]⟩,⟨some 5,.mv (.c (.bool false)),none,[]⟩] [4,5]) .ret) .skip)) (.seq (.ops [⟨some 17,.load 10 true (.t 2),none,[2]⟩,⟨some 18,.mkrow 6 1 10 [.int .i64 0,.int .i64 0,.int .i64 0,.int .i64 0,.int .i64 0,.int .i64 0,.int .i64 0,.int .i64 0,.int .i64 0,.int .i64 0] [(0,10,.t 17)],none,[]⟩,⟨some 6,.mv (.t 18),none,[]⟩] [1,6]) (.seq (.ops [⟨some 7,.nil0 7 10,none,[]⟩] [1,6,7]) (.seq (.seq (.ops [⟨some 19,.mv (.t 1),none,[]⟩,⟨some 20,.len (.t 19),none,[]⟩,⟨some 21,.mv (.c (.int .i64 0)),none,[]⟩] [6,7,19,20,21]) (.block 0 (.loop (.keep [6,7,19,20,21] [6,7] c49_38)))) (.seq (.ops [⟨some 74,.mv (.t 7),none,[]⟩,⟨some 4,.mv (.t 74),none,[]⟩,⟨some 5,.mv (.c (.bool true)),none,[]⟩] [4,5]) .ret)))))
theorem r49_49:type_of% (rr c49_49.eq_1):=rr rfl
def a49:AFun:=⟨2,75,c49_49,[.t 4,.t 5]⟩
attribute [simp] r49_38 r49_49
theorem m49:mFun Tryz.prog Tryz.f49 a49=true:=by decide +kernel
def c50_65:ACode:=.seq (.ops [⟨some 3,.box (.t 0) 6,none,[]⟩,⟨some 4,.box (.t 1) 17,none,[]⟩,⟨some 5,.box (.t 2) 10,none,[]⟩,⟨some 6,.mv (.c (.bool false)),none,[]⟩] [3,4,5]) (.seq (.seq (.ops [⟨some 15,.load 10 true (.t 5),none,[5]⟩,⟨some 16,.call 52 [.t 15],none,[]⟩] [3,4,5,16]) (.cond (.t 16) (.seq (.ops [⟨some 6,.mv (.c (.bool true)),none,[]⟩] [6]) .ret) .skip)) (.seq (.ops [⟨some 18,.load 6 true (.t 3),none,[3]⟩,⟨some 19,.fad (.t 4) 1,none,[4]⟩,⟨some 20,.load 1 false (.t 19),none,[4]⟩,⟨some 21,.load 10 true (.t 5),none,[5]⟩,⟨some 22,.call 80 [.t 18,.t 20,.t 21],none,[]⟩,⟨some 17,.mv (.t 22),none,[]⟩,⟨some 23,.ext (.t 17) 0,none,[]⟩,⟨some 24,.ext (.t 17) 1,none,[]⟩,⟨some 7,.mv (.t 23),none,[]⟩,⟨some 8,.mv (.t 24),none,[]⟩] [3,4,5,7,8]) (.seq (.seq (.ops [⟨some 25,.fad (.t 4) 0,none,[4]⟩,⟨some 26,.load 1 false (.t 25),none,[4]⟩] [3,4,5,7,8,26]) (.block 0 (.seq (.ops [⟨some 28,.bin .eql (.t 26) (.c (.int .i64 1)),none,[]⟩,⟨some 27,.mv (.t 28),none,[]⟩] [3,4,5,7,8,26,27]) (.cond (.t 27) (.seq (.ops [⟨some 29,.fad (.t 4) 12,none,[4]⟩,⟨some 30,.load 1 false (.t 29),none,[4]⟩,⟨some 31,.mv (.t 7),none,[]⟩,⟨some 32,.bin .leq (.t 30) (.t 31),none,[]⟩,⟨some 33,.mv (.t 32),none,[]⟩,⟨some 34,.mv (.t 8),some (33,true),[]⟩,⟨some 35,.fad (.t 4) 13,some (33,true),[4]⟩,⟨some 36,.load 1 false (.t 35),some (33,true),[4]⟩,⟨some 37,.bin .leq (.t 34) (.t 36),some (33,true),[]⟩,⟨some 38,.pick (.t 33) (.t 37) (.c (.bool false)),none,[]⟩,⟨some 6,.mv (.t 38),none,[]⟩] [6]) .ret) (.seq (.ops [⟨some 40,.bin .eql (.t 26) (.c (.int .i64 2)),none,[]⟩,⟨some 39,.mv (.t 40),none,[]⟩] [3,4,5,7,8,39]) (.cond (.t 39) (.seq (.seq (.ops [⟨some 41,.fad (.t 3) 1,none,[3]⟩,⟨some 42,.load 1 false (.t 41),none,[3]⟩,⟨some 43,.mv (.c (.int .i64 0)),none,[]⟩] [3,4,5,7,42,43]) (.block 1 (.loop (.keep [3,4,5,7,42,43] [3,4,5] (.seq (.ops [⟨some 44,.bin .lss (.t 43) (.t 42),none,[]⟩] [3,4,5,7,42,43,44]) (.seq (.cond (.t 44) .skip (.exit 1)) (.seq (.block 2 (.seq (.ops [⟨some 45,.mv (.t 43),none,[]⟩,⟨some 9,.mv (.t 45),none,[]⟩] [3,4,5,7,9,42,43]) (.seq (.ops [⟨some 47,.load 6 true (.t 3),none,[3]⟩,⟨some 48,.mv (.t 9),none,[]⟩,⟨some 49,.load 10 true (.t 5),none,[5]⟩,⟨some 50,.call 80 [.t 47,.t 48,.t 49],none,[]⟩,⟨some 46,.mv (.t 50),none,[]⟩,⟨some 51,.ext (.t 46) 0,none,[]⟩,⟨some 52,.ext (.t 46) 1,none,[]⟩,⟨some 10,.mv (.t 51),none,[]⟩,⟨some 11,.mv (.t 52),none,[]⟩] [3,4,5,7,9,11,42,43]) (.seq (.ops [⟨some 53,.mv (.t 9),none,[]⟩,⟨some 54,.fad (.t 4) 1,none,[4]⟩,⟨some 55,.load 1 false (.t 54),none,[4]⟩,⟨some 56,.bin .neq (.t 53) (.t 55),none,[]⟩,⟨some 57,.mv (.t 56),none,[]⟩,⟨some 58,.mv (.t 11),some (57,true),[]⟩,⟨some 59,.mv (.t 7),some (57,true),[]⟩,⟨some 60,.bin .geq (.t 58) (.t 59),some (57,true),[]⟩,⟨some 61,.pick (.t 57) (.t 60) (.c (.bool false)),none,[]⟩] [3,4,5,7,42,43,61]) (.cond (.t 61) (.seq (.ops [⟨some 6,.mv (.c (.bool false)),none,[]⟩] [6]) .ret) .skip))))) (.ops [⟨some 62,.bin .add (.t 43) (.c (.int .i64 1)),none,[]⟩,⟨some 43,.mv (.t 62),none,[]⟩] [3,4,5,7,42,43])))))))) (.seq (.ops [⟨some 6,.mv (.c (.bool true)),none,[]⟩] [6]) .ret)) .skip)))))) (.seq (.seq (.ops [⟨some 63,.fad (.t 4) 14,none,[4]⟩,⟨some 64,.load 1 false (.t 63),none,[4]⟩,⟨some 65,.iad (.t 5) (.t 64) 2 5,none,[5]⟩,⟨some 66,.fad (.t 65) 0,none,[5]⟩,⟨some 67,.load 1 false (.t 66),none,[5]⟩,⟨some 68,.iad (.t 5) (.c (.int .i64 4)) 2 5,none,[5]⟩,⟨some 69,.fad (.t 68) 1,none,[5]⟩,⟨some 70,.load 1 false (.t 69),none,[5]⟩,⟨some 71,.bin .geq (.t 67) (.t 70),none,[]⟩] [3,4,5,7,8,71]) (.cond (.t 71) (.seq (.ops [⟨some 6,.mv (.c (.bool true)),none,[]⟩] [6]) .ret) .skip)) (.seq (.ops [⟨some 72,.load 10 true (.t 5),none,[5]⟩,⟨some 12,.alloc [.int .i64 0,.int .i64 0,.int .i64 0,.int .i64 0,.int .i64 0,.int .i64 0,.int .i64 0,.int .i64 0,.int .i64 0,.int .i64 0],none,[]⟩,⟨none,.store (.t 12) 10 (.t 72),none,[12]⟩] [3,4,5,7,8,12]) (.seq (.ops [⟨some 73,.fad (.t 4) 14,none,[4]⟩,⟨some 74,.load 1 false (.t 73),none,[4]⟩,⟨some 75,.iad (.t 5) (.c (.int .i64 4)) 2 5,none,[5]⟩,⟨some 76,.load 2 true (.t 75),none,[5]⟩,⟨some 77,.iad (.t 12) (.t 74) 2 5,none,[12]⟩,⟨none,.store (.t 77) 2 (.t 76),none,[12]⟩] [3,4,7,8,12]) (.seq (.ops [⟨some 79,.load 6 true (.t 3),none,[3]⟩,⟨some 80,.fad (.t 4) 1,none,[4]⟩,⟨some 81,.load 1 false (.t 80),none,[4]⟩,⟨some 82,.load 10 true (.t 12),none,[12]⟩,⟨some 83,.call 80 [.t 79,.t 81,.t 82],none,[]⟩,⟨some 78,.mv (.t 83),none,[]⟩,⟨some 84,.ext (.t 78) 0,none,[]⟩,⟨some 85,.ext (.t 78) 1,none,[]⟩,⟨some 13,.mv (.t 84),none,[]⟩,⟨some 14,.mv (.t 85),none,[]⟩] [4,7,8,13,14]) (.seq (.seq (.ops [⟨some 86,.fad (.t 4) 15,none,[4]⟩,⟨some 87,.load 1 false (.t 86),none,[4]⟩] [7,8,13,14,87]) (.cond (.t 87) (.seq (.ops [⟨some 88,.mv (.t 14),none,[]⟩,⟨some 89,.mv (.t 7),none,[]⟩,⟨some 90,.bin .leq (.t 88) (.t 89),none,[]⟩,⟨some 6,.mv (.t 90),none,[]⟩] [6]) .ret) .skip)) (.seq (.ops [⟨some 91,.mv (.t 13),none,[]⟩,⟨some 92,.mv (.t 8),none,[]⟩,⟨some 93,.bin .geq (.t 91) (.t 92),none,[]⟩,⟨some 6,.mv (.t 93),none,[]⟩] [6]) .ret)))))))))
theorem r50_65:type_of% (rr c50_65.eq_1):=rr rfl
def a50:AFun:=⟨3,94,c50_65,[.t 6]⟩
attribute [simp] r50_65
theorem m50:mFun Tryz.prog Tryz.f50 a50=true:=by decide +kernel
def rightS (s:Step):Bool:=if s.sum then decide (s.place=0)&&decide (s.cut=0) else decide (0≤s.place)&&decide (s.place≤4)
theorem runs_pright (s:Step) (r:Bool) (h:some (rightS s)=some r):Runs (tbl []) a155 [Arg.enc s] (Arg.enc r):=by
 cases h
 refine⟨rfl,fun g=>run_def ?_⟩
 unfold a155 rightS
 obtain⟨sum,place,cut⟩:=s
 cases sum
 ·by_cases h0:0≤place<;>simp -implicitDefEqProofs [h0]
 ·by_cases h0:place=0<;>by_cases h1:cut=0<;>simp -implicitDefEqProofs [h0,h1]
theorem c_pright:Contract Tryz.prog 155 (sp1 fun s=>some (rightS s)) :=
 contract_of_runs mixed tbl_nil Tryz.func155 m155 (sp1_runs runs_pright)
def deepN:Nat→Nat→List Step→Nat
 | left,most,[]=>if left=0∧most≤200 then most else 0
 | left,most,s::l=>if left=0 then 0 else if rightS s=true then (if s.sum then deepN (left-1) most l else deepN (left+1) (if most<left+1 then left+1 else most) l) else 0
def deepV (l:List Step):Int:=if l.length≤65536 then (deepN 1 1 l:Nat) else 0
theorem rd_step (l:List Step) (i:Nat) (h:i<l.length):rd (encL l) (i*3) 3 true=some (Arg.enc l[i]):=rd_row l i h
theorem runs_deep (l:List Step) (r:Int) (h:some (deepV l)=some r):Runs (tbl [(155,sp1 fun s=>some (rightS s))]) a117 [Arg.enc l] (Arg.enc r):=by
 cases h
 refine⟨rfl,fun g=>run_def ?_⟩
 unfold a117 deepV
 by_cases b1:l.length≤maxN
 case neg=>simp -implicitDefEqProofs [b1]
 by_cases h6:l.length≤65536
 case neg =>
  have h6':(65536:Int)<l.length:=by omega
  simp -implicitDefEqProofs [b1,h6,h6']
 have h6':¬ (65536:Int)<l.length:=by omega
 rw[if_pos h6]
 generalize hD:deepN 1 1 l=D at *
 simp -implicitDefEqProofs [b1,h6']
 refine run_while (c:=c117_31) (fun n s=>∃(i left most:Nat) (g:Nat→Nat),i+n=l.length∧left≤i+1∧most≤i+1∧deepN left most (l.drop i)=D∧s=⟨[(3,.int .i64 left),(4,.int .i64 most),(10,.lst l.length (encL l)),(11,.int .i64 l.length),(12,.int .i64 i)],[],g⟩) l.length ⟨0,1,1,g,by omega,by omega,by omega,by simpa using hD,by simp⟩ ?_
 rintro n s ⟨i,left,most,g,hi,hl,hmo,hE,rfl⟩
 by_cases h1:i<l.length
 case pos =>
  have w1:IntKind.i64.wrap ((i:Int)+1)=(i:Int)+1:=wrap64 (by omega) (by omega)
  have hrow:=rd_step l i h1
  rw[List.drop_eq_getElem_cons h1,deepN] at hE
  generalize l[i]=s at *
  obtain⟨sm,pl,ct⟩:=s
  by_cases h0:left=0
  case pos =>
   subst h0
   rw[if_pos rfl] at hE
   subst hE
   simp -implicitDefEqProofs [h1,hrow]
  rw[if_neg h0] at hE
  have h0':¬ (left:Int)=0:=by omega
  cases hr:rightS ⟨sm,pl,ct⟩
  case false =>
   rw[hr,if_neg (by simp)] at hE
   subst hE
   simp -implicitDefEqProofs [h1,hrow,h0,h0',hr]
  rw[hr,if_pos rfl] at hE
  simp only at hE
  cases sm
  case true =>
   rw[if_pos rfl] at hE
   have w2:IntKind.i64.wrap ((left:Int)-1)=((left-1:Nat):Int):=by rw[wrap64 (by omega) (by omega)];omega
   simp -implicitDefEqProofs [h1,hrow,h0,h0',hr,w1,w2]
   exact⟨n-1,by omega,i+1,by omega,left-1,by omega,most,by omega,hE,rfl,rfl,by omega⟩
  case false =>
   rw[if_neg (by simp)] at hE
   have w2:IntKind.i64.wrap ((left:Int)+1)=(left:Int)+1:=wrap64 (by omega) (by omega)
   by_cases hm:most<left+1
   ·rw[if_pos hm] at hE
    have hm':(most:Int)<(left:Int)+1:=by omega
    simp -implicitDefEqProofs [h1,hrow,h0,h0',hr,w1,w2,hm']
    exact⟨n-1,by omega,i+1,by omega,left+1,by omega,left+1,by omega,hE,by omega,by omega,by omega⟩
   ·rw[if_neg hm] at hE
    have hm':¬ (most:Int)<(left:Int)+1:=by omega
    simp -implicitDefEqProofs [h1,hrow,h0,h0',hr,w1,w2,hm']
    exact⟨n-1,by omega,i+1,by omega,left+1,by omega,most,by omega,hE,by omega,by omega,by omega⟩
 case neg =>
  have hil:i=l.length:=by omega
  subst hil
  rw[List.drop_length,deepN] at hE
  by_cases h0:left=0
  case neg =>
   rw[if_neg (fun h=>h0 h.1)] at hE
   subst hE
   have h0':¬ (left:Int)=0:=by omega
   simp -implicitDefEqProofs [h1,h0,h0']
  subst h0
  by_cases hm:most≤200
  ·rw[if_pos ⟨rfl,hm⟩] at hE
   subst hE
   have hm':¬ (200:Int)<most:=by omega
   simp -implicitDefEqProofs [h1,hm']
  ·rw[if_neg (fun h=>hm h.2)] at hE
   subst hE
   have hm':(200:Int)<most:=by omega
   simp -implicitDefEqProofs [h1,hm']
theorem c_deep:Contract Tryz.prog 117 (sp1 fun l=>some (deepV l)) :=
 contract_of_runs mixed (tbl_cons c_pright tbl_nil) Tryz.func117 m117 (sp1_runs runs_deep)
theorem runs_pRight (l:List Step) (r:Bool) (h:some (decide (0<deepV l))=some r):Runs (tbl [(117,sp1 fun l=>some (deepV l))]) a79 [Arg.enc l] (Arg.enc r):=by
 cases h
 refine⟨rfl,fun g=>run_def ?_⟩
 unfold a79
 simp -implicitDefEqProofs []
theorem c_pRight:Contract Tryz.prog 79 (sp1 fun l=>some (decide (0<deepV l))) :=
 contract_of_runs mixed (tbl_cons c_deep tbl_nil) Tryz.func79 m79 (sp1_runs runs_pRight)
def walkS:List Box→List Step→Option (List Box)
 | [],[]=>some []
 | _::_,[]=>none
 | [],_::_=>none
 | b::bs,s::l=>if s.sum then (walkS bs l).map (b::·) else if (b.get s.place).lo≤s.cut∧s.cut<(b.get s.place).hi then walkS ((cutB b s.place s.cut).1::(cutB b s.place s.cut).2::bs) l else none
noncomputable def PSumsC (b:Box) (l:List Step):Option (List Box×Bool):=Part (okB b) (if 0<deepV l then (match walkS [b] l with
 | some out=>(out,true)
 | none=>([],false)) else ([],false))
theorem box_cells (b:Box) {k:Int} (h0:0≤k) (h4:k≤4):rd (Row.enc b) (k.toNat*2) 1 false=some (.int .i64 (b.get k).lo)∧rd (Row.enc b) (k.toNat*2+1) 1 false=some (.int .i64 (b.get k).hi):=by
 have h1:=rd_nlo b k.toNat (by omega)
 have h2:=rd_nhi b k.toNat (by omega)
 rw[show ((k.toNat:Nat):Int)=k by omega] at h1 h2
 exact⟨h1,h2⟩
theorem runs_pSums (b:Box) (l:List Step) (r:List Box×Bool) (h:PSumsC b l=some r):Runs (tbl [(79,sp1 fun l=>some (decide (0<deepV l))),(68,sp3 CutB)]) a49 [Arg.enc b,Arg.enc l] (Arg.enc r):=by
 obtain⟨hb,rfl⟩:=part_some h
 clear h
 refine⟨rfl,fun g=>run_def ?_⟩
 unfold a49
 by_cases hd:0<deepV l
 case neg=>simp -implicitDefEqProofs [hd,encL_nil]
 rw[if_pos hd]
 have h6:l.length≤65536:=by
  unfold deepV at hd
  split at hd
  ·assumption
  ·omega
 have b1:l.length≤maxN:=by unfold maxN;omega
 have hd1:0<deepN 1 1 l:=by
  unfold deepV at hd
  rw[if_pos h6] at hd
  omega
 generalize hres:walkS [b] l=res at *
 simp -implicitDefEqProofs [hd,b1]
 refine run_while (c:=c49_38) (fun n s=>∃(i most:Nat) (R O:List Box) (G:List AV) (g:Nat→Nat),i+n=l.length∧R.length≤i+1∧O.length≤i∧0<deepN R.length most (l.drop i)∧(∀ x∈R,okB x)∧(walkS R.reverse (l.drop i)).map (O++·)=res ∧
  s=⟨[(6,.own 6 (g 6) 0 R.length),(7,.own 7 (g 7) 0 O.length),(19,.lst l.length (encL l)),(20,.int .i64 l.length),(21,.int .i64 i)],[(6,⟨encL R++G,false,10⟩),(7,⟨encL O,false,10⟩)],g⟩) l.length ⟨0,1,[b],[],[],bump 7 (bump 6 (bump 2 g)),by omega,by simp,by simp,by simpa using hd1,by simpa using hb,by simpa using hres,by simp[encL_cons,encL_nil]⟩ ?_
 rintro n s ⟨i,most,R,O,G,g,hi,hRl,hOl,hdn,hRok,hW,rfl⟩
 by_cases h1:i<l.length
 case pos =>
  have w1:IntKind.i64.wrap ((i:Int)+1)=(i:Int)+1:=wrap64 (by omega) (by omega)
  have hrow:=rd_step l i h1
  rw[List.drop_eq_getElem_cons h1] at hdn hW
  generalize l[i]=s at *
  rcases List.eq_nil_or_concat R with rfl|⟨R,x,rfl⟩
  ·rw[List.length_nil,deepN,if_pos rfl] at hdn
   omega
  rw[List.concat_eq_append] at *
  rw[List.reverse_append,List.reverse_singleton,List.singleton_append,walkS] at hW
  have e2:(R++[x]).length=R.length+1:=by simp
  rw[e2] at hdn hRl
  rw[deepN,if_neg (by omega)] at hdn
  have hrs:rightS s=true:=by
   cases hr:rightS s
   ·rw[hr,if_neg (by simp)] at hdn;omega
   ·rfl
  rw[if_pos hrs] at hdn
  have hxok:okB x:=hRok x (by simp)
  have hRok':∀ z∈R,okB z:=fun z hz=>hRok z (by simp[hz])
  have wL:IntKind.i64.wrap ((R.length:Nat):Int)=R.length:=wrap64 (by omega) (by omega)
  have c0:R.length+1≤maxN:=by unfold maxN;omega
  have c9:(R.length:Int)<(R.length:Int)+1:=by omega
  have c10:(R.length:Int)≤(R.length:Int)+1:=by omega
  have c11:R.length≤1099511627774:=by omega
  have c12:O.length≤1099511627775:=by omega
  have htop:rd (encL R++(Row.enc x++G)) (R.length*10) 10 true=some (.agg (Row.enc x)):=by
   have:=rd_top R x G
   rw[encL_append,List.append_assoc] at this
   simpa [encL_cons,encL_nil] using this
  have e1:encL (R++[x])++G=encL R++(Row.enc x++G):=by simp[encL_append,encL_cons,encL_nil]
  rw[e1,e2]
  have htk:=take_boxG R (Row.enc x++G)
  have hlen:=len_boxG R (Row.enc x++G)
  generalize (Row.enc x++G)=G2 at *
  have hlen2:R.length*10≤(encL R).length+G2.length:=by simpa using hlen
  have hOk:=takeB O
  have hOl2:=lenB O
  cases hs:s.sum
  case true =>
   rw[hs,if_pos rfl] at hdn hW
   rw[Nat.add_sub_cancel] at hdn
   have hsn:=encL_snocB O x
   have hW2:(walkS R.reverse (l.drop (i+1))).map ((O++[x])++·)=res:=by
    rw[← hW,Option.map_map]
    congr 1
    funext y
    simp
   have htop:rd (encL R++G2) (R.length*10) 10 true=some (.agg [.int .i64 x.s0.lo,.int .i64 x.s0.hi,.int .i64 x.s1.lo,.int .i64 x.s1.hi,.int .i64 x.s2.lo,.int .i64 x.s2.hi,.int .i64 x.s3.lo,.int .i64 x.s3.hi,.int .i64 x.s4.lo,.int .i64 x.s4.hi]):=htop
   simp -implicitDefEqProofs [h1,hrow,hs,c0,c9,c10,c12,wL,w1,htop,hlen2,hOk,hOl2]
   exact⟨n-1,by omega,i+1,by omega,most,R,by omega,O++[x],by simp;omega,hdn,hRok',hW2,⟨rfl,by simp,by omega⟩,⟨G2,rfl⟩,hsn.symm⟩
  case false =>
   rw[hs,if_neg (by simp)] at hdn hW
   unfold rightS at hrs
   rw[hs,if_neg (by simp)] at hrs
   simp only[Bool.and_eq_true,decide_eq_true_eq] at hrs
   obtain⟨k0,k4⟩:=hrs
   obtain⟨sum,k,at_⟩:=s
   simp only at hs k0 k4 hW
   subst hs
   have k5:k<5:=by omega
   obtain⟨hlo,hhi⟩:=box_cells x k0 k4
   by_cases hin:(x.get k).lo≤at_∧at_<(x.get k).hi
   case neg =>
    rw[if_neg hin] at hW
    have hW':res=none:=by rw[← hW];rfl
    subst hW'
    have htop:rd (encL R++G2) (R.length*10) 10 true=some (.agg [.int .i64 x.s0.lo,.int .i64 x.s0.hi,.int .i64 x.s1.lo,.int .i64 x.s1.hi,.int .i64 x.s2.lo,.int .i64 x.s2.hi,.int .i64 x.s3.lo,.int .i64 x.s3.hi,.int .i64 x.s4.lo,.int .i64 x.s4.hi]):=htop
    have hk5:k=0∨k=1∨k=2∨k=3∨k=4:=by omega
    by_cases hlt:at_<(x.get k).lo
    ·rcases hk5 with rfl|rfl|rfl|rfl|rfl<;>simp only[Box.get,reduceIte,Int.reduceEq] at hlt<;>simp -implicitDefEqProofs [h1,hrow,c0,c9,c10,wL,htop,hlen2,hlt,encL_nil]
    ·have hge:(x.get k).hi≤at_:=by omega
     rcases hk5 with rfl|rfl|rfl|rfl|rfl<;>simp only[Box.get,reduceIte,Int.reduceEq] at hlt hge<;>simp -implicitDefEqProofs [h1,hrow,c0,c9,c10,wL,htop,hlen2,hlt,hge,encL_nil]
   case pos =>
    rw[if_pos hin] at hW
    obtain⟨l1,l2⟩:=hin
    have hg64:=okB_get hxok k
    have hat:ok64 at_:=by unfold okS64 ok64 at hg64;unfold ok64;omega
    have hCu:=cutB_of hxok k hat
    have hok2:=okB_cut hxok k hat
    generalize cutB x k at_=yz at *
    obtain⟨y,z⟩:=yz
    simp only at hW hok2
    have htop:rd (encL R++G2) (R.length*10) 10 true=some (.agg [.int .i64 x.s0.lo,.int .i64 x.s0.hi,.int .i64 x.s1.lo,.int .i64 x.s1.hi,.int .i64 x.s2.lo,.int .i64 x.s2.hi,.int .i64 x.s3.lo,.int .i64 x.s3.hi,.int .i64 x.s4.lo,.int .i64 x.s4.hi]):=htop
    have hk5:k=0∨k=1∨k=2∨k=3∨k=4:=by omega
    have hlt:¬ at_<(x.get k).lo:=by omega
    have hge:¬ (x.get k).hi≤at_:=by omega
    have hok3:∀ b'∈R++[z,y],okB b':=fun b' hb'=>by
     rcases List.mem_append.1 hb' with hb'|hb'
     ·exact hRok' b' hb'
     ·simp at hb'
      rcases hb' with rfl|rfl
      ·exact hok2.2
      ·exact hok2.1
    have hrow2:encL (R++[z,y])++[]=encL R++(Row.enc z++Row.enc y):=by simp[encL_append,encL_cons,encL_nil]
    have hl2:(R++[z,y]).length=R.length+1+1:=by simp
    have hdn2:=hdn
    rw[← hl2] at hdn2
    have hW3:(walkS (R++[z,y]).reverse (l.drop (i+1))).map (O++·)=res:=by simpa using hW
    rcases hk5 with rfl|rfl|rfl|rfl|rfl<;>simp only[Box.get,reduceIte,Int.reduceEq] at hlt hge<;>simp -implicitDefEqProofs [h1,hrow,c0,c9,c10,c11,wL,w1,htop,hlen2,hlt,hge,hCu,htk]
    all_goals exact⟨n-1,by omega,i+1,by omega,_,R++[z,y],by simp;omega,O,by omega,hdn2,hok3,hW3,⟨by simp,rfl,by omega⟩,⟨[],hrow2.symm⟩,rfl⟩
 case neg =>
  have hil:i=l.length:=by omega
  subst hil
  rw[List.drop_length] at hdn hW
  have hR0:R=[]:=by
   rw[deepN] at hdn
   split at hdn
   ·rename_i h;exact List.length_eq_zero_iff.1 h.1
   ·omega
  subst hR0
  have hW':res=some O:=by rw[← hW];simp[walkS]
  subst hW'
  have hOk:=takeB O
  have hOl2:=lenB O
  simp -implicitDefEqProofs [h1,hOk,hOl2]
theorem c_pSums:Contract Tryz.prog 49 (sp2 PSumsC) :=
 contract_of_runs mixed (tbl_cons c_pRight (tbl_cons c_bCut tbl_nil)) Tryz.func49 m49 (sp2_runs runs_pSums)
end Go.Co
/- CO: is a verdict proven? by the checker, and by the document. -/
set_option maxHeartbeats 16000000
set_option maxRecDepth 100000
namespace Go.Co
open Go.Am Go.Proofs
attribute [-simp] Go.Am.eff_gcall
def shownB (m:Model) (q:Query) (b:Box):Bool:=if b.empty then true else shownM m q b
theorem closed_shownB {m:Model} (hm:RM m) {q:Query} (hq:okQuery m q=true) (b:Box):closedM m q b=shownB m q b:=by
 unfold shownB
 cases he:b.empty
 ·rw[if_neg (by simp)];exact closed_shown hm hq he
 ·unfold closedM
  rw[if_neg (by simp[hq]),if_pos he]
  rfl
noncomputable def ShownC (m:Model) (q:Query) (b:Box):Option Bool:=Part (RM m∧okQuery m q=true∧okB b) (shownB m q b)
theorem sums_in {m:Model} {b:Box} (hm:RM m) (hb:okB b) (he:b.empty=false) {c:Int} (h0:0≤c) (h1:c<m.classes):SumsC m c b=some ((boundP m c b).1,(boundP m c b).2):=by
 unfold SumsC
 rw[part_of ⟨hm,hb⟩]
 unfold sumsP
 rw[if_neg (by simp[he];omega)]
theorem runs_shown (m:Model) (q:Query) (b:Box) (r:Bool) (h:ShownC m q b=some r):Runs (tbl [(52,sp1 fun (b:Box)=>some b.empty),(80,sp3 SumsC)]) a50 [Arg.enc m,Arg.enc q,Arg.enc b] (Arg.enc r):=by
 obtain⟨⟨hm,hq,hb⟩,rfl⟩:=part_some h
 clear h
 refine⟨rfl,fun g=>run_def ?_⟩
 unfold a50
 unfold shownB
 cases he:b.empty
 case true=>simp -implicitDefEqProofs [he]
 rw[if_neg (by simp)]
 have hs:=okQuery_spec hq
 have hk:=okKind_spec hs.2.2.2.2.2
 have hcl:=hm.classes
 have hS:=sums_in hm hb he hs.1 hs.2.1
 have s0:=sums_in hm hb he (c:=0) (by omega) (by omega)
 have s1:2≤m.classes→_:=fun h=>sums_in hm hb he (c:=1) (by omega) (by omega)
 have s2:m.classes=3→_:=fun h=>sums_in hm hb he (c:=2) (by omega) (by omega)
 have hokp:okB (pairB q b):=by
  unfold pairB
  split
  ·exact okB_set hb _ hb.2.2.2.2
  ·exact hb
 have hP:=sums_in hm hokp (pair_some he) hs.1 hs.2.1
 rcases hk with⟨k,_⟩|⟨k,k2,_⟩|⟨k,f0,f1,_⟩
 ·unfold shownM
  rw[if_pos k]
  generalize boundP m q.cls b=z at *
  obtain⟨z1,z2⟩:=z
  obtain⟨kind,cls,region,lo,hi,feature,falls,budget⟩:=q
  simp only at *
  subst k
  by_cases c1:lo≤z1
  ·simp -implicitDefEqProofs [he,hS,c1]
  ·simp -implicitDefEqProofs [he,hS,c1]
 ·unfold shownM
  rw[if_neg (by omega),if_pos k]
  have s1:=s1 k2
  have hx:0≤q.cls:=hs.1
  have hx1:=hs.2.1
  obtain⟨kind,cls,region,lo,hi,feature,falls,budget⟩:=q
  obtain⟨dim,classes,bias,trees⟩:=m
  simp only at *
  subst k
  have hcs:(classes=2∧cls=0)∨(classes=2∧cls=1)∨(classes=3∧cls=0)∨(classes=3∧cls=1)∨(classes=3∧cls=2):=by omega
  rcases hcs with⟨rfl,rfl⟩|⟨rfl,rfl⟩|⟨rfl,rfl⟩|⟨rfl,rfl⟩|⟨rfl,rfl⟩
  ·rcases Int.lt_or_le (boundP ⟨dim,2,bias,trees⟩ 1 b).2 (boundP ⟨dim,2,bias,trees⟩ 0 b).1 with g1|g1<;>simp -implicitDefEqProofs [he,hS,s0,s1,run_round,g1]
  ·rcases Int.lt_or_le (boundP ⟨dim,2,bias,trees⟩ 0 b).2 (boundP ⟨dim,2,bias,trees⟩ 1 b).1 with g1|g1<;>simp -implicitDefEqProofs [he,hS,s0,s1,run_round,g1]
  ·have s2:=s2 rfl
   rcases Int.lt_or_le (boundP ⟨dim,3,bias,trees⟩ 1 b).2 (boundP ⟨dim,3,bias,trees⟩ 0 b).1 with g1|g1<;>rcases Int.lt_or_le (boundP ⟨dim,3,bias,trees⟩ 2 b).2 (boundP ⟨dim,3,bias,trees⟩ 0 b).1 with g2|g2<;>simp -implicitDefEqProofs [he,hS,s0,s1,s2,run_round,g1,g2]
  ·have s2:=s2 rfl
   rcases Int.lt_or_le (boundP ⟨dim,3,bias,trees⟩ 0 b).2 (boundP ⟨dim,3,bias,trees⟩ 1 b).1 with g1|g1<;>rcases Int.lt_or_le (boundP ⟨dim,3,bias,trees⟩ 2 b).2 (boundP ⟨dim,3,bias,trees⟩ 1 b).1 with g2|g2<;>simp -implicitDefEqProofs [he,hS,s0,s1,s2,run_round,g1,g2]
  ·have s2:=s2 rfl
   rcases Int.lt_or_le (boundP ⟨dim,3,bias,trees⟩ 0 b).2 (boundP ⟨dim,3,bias,trees⟩ 2 b).1 with g1|g1<;>rcases Int.lt_or_le (boundP ⟨dim,3,bias,trees⟩ 1 b).2 (boundP ⟨dim,3,bias,trees⟩ 2 b).1 with g2|g2<;>simp -implicitDefEqProofs [he,hS,s0,s1,s2,run_round,g1,g2]
 ·have hd:=hm.dim
  have hpb:pairB q b=b.set q.feature b.s4:=by unfold pairB;rw[if_pos (by unfold paired;simp;omega)]
  rw[hpb] at hP
  unfold shownM
  rw[if_neg (by omega),if_neg (by omega),hpb]
  generalize boundP m q.cls b=z at *
  generalize boundP m q.cls (b.set q.feature b.s4)=y at *
  obtain⟨z1,z2⟩:=z
  obtain⟨y1,y2⟩:=y
  obtain⟨kind,cls,region,lo,hi,feature,falls,budget⟩:=q
  simp only at *
  subst k
  have hc:feature=0∨feature=1∨feature=2∨feature=3:=by omega
  by_cases hle:b.s4.hi≤(b.get feature).lo
  ·rcases hc with rfl|rfl|rfl|rfl<;>simp only[Box.get,reduceIte,Int.reduceEq] at hle<;>simp -implicitDefEqProofs [Box.get,he,hS,hle]
  ·cases falls
   ·by_cases g1:z2≤y1<;>(rcases hc with rfl|rfl|rfl|rfl)<;>simp only[Box.get,Box.set,reduceIte,Int.reduceEq] at hle hP<;>simp -implicitDefEqProofs [Box.get,he,hS,hP,hle,g1]
   ·by_cases g1:y2≤z1<;>(rcases hc with rfl|rfl|rfl|rfl)<;>simp only[Box.get,Box.set,reduceIte,Int.reduceEq] at hle hP<;>simp -implicitDefEqProofs [Box.get,he,hS,hP,hle,g1]
theorem c_shown:Contract Tryz.prog 50 (sp3 ShownC) :=
 contract_of_runs mixed (tbl_cons c_bEmpty (tbl_cons c_sums tbl_nil)) Tryz.func50 m50 (sp3_runs runs_shown)
end Go.Co
