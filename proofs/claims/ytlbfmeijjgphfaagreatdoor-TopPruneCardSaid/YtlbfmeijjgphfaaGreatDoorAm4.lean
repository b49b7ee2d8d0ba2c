/- AM: an interpreter, and that what it comes to holds of the model's run: a closed sentence is proved by running it. -/
import Derived.Test.YtlbfmeijjgphfaaGreatDoorAm3
import Derived.ChangeSame
import Derived.OpenShut
import Derived.Carry
set_option linter.unusedVariables false
set_option linter.unusedSimpArgs false
namespace Go.Am
set_option linter.unusedVariables false
def runL (W:St→Option (Ex×St)):Nat→St→Option (Ex×St)
 | 0,_=>none
 | n+1,s=>match W s with
  | some (.normal,s')=>runL W n s'
  | r=>r
def exec (C:Cs) (n:Nat):ACode→St→Option (Ex×St)
 | .skip,s=>some (.normal,s)
 | .ops l kill,s=>match evOps C l s with
  | .ok s'=>some (.normal,{ s' with t:=keepT s'.t kill })
  | _=>none
 | .seq a b,s=>match exec C n a s with
  | some (.normal,s')=>exec C n b s'
  | r=>r
 | .cond c a b,s=>match opv s c with
  | .bool true=>exec C n a s
  | .bool false=>exec C n b s
  | _=>none
 | .block id c,s=>match exec C n c s with
  | some (.exit id',s')=>if id'=id then some (.normal,s') else some (.exit id',s')
  | r=>r
 | .loop c,s=>runL (exec C n c) n s
 | .keep kt kh c,s=>exec C n c { t:=keepT s.t kt,h:=keepH s.h kh,g:=s.g }
 | .exit id,s=>some (.exit id,s)
 | .ret,s=>some (.ret,s)
 | .next _ _ _ _ _,_=>none
 | .nilq x m d live,s=>match opv s x with
  | .nils=>some (.normal,⟨keepT (put (put s.t m .nils) d (.bool true)) live,s.h,s.g⟩)
  | .lst (k+1) xs=>some (.normal,⟨keepT (put (put s.t m (.lst (k+1) xs)) d (.bool false)) live,s.h,s.g⟩)
  | _=>none
def ends (rs:List ARes):Option (Ex×St)→Option AV
 | some (.normal,s)=>handed s rs
 | some (.ret,s)=>handed s rs
 | _=>none
def tabF:List (Nat×AFun)→Nat→Option AFun
 | [],_=>none
 | (k,A)::l,f=>if f=k then some A else tabF l f
theorem runL_sound {C:Cs} {c:ACode} {n0:Nat} (ih:∀ s e s' (Q:Post),exec C n0 c s=some (e,s')→Q e s'→wpC C c s Q) :
  ∀(n:Nat) (s:St) (e:Ex) (s':St) (Q:Post),runL (exec C n0 c) n s=some (e,s')→Q e s'→iter (wpC C c) n s Q
 | 0,s,e,s',Q,h,_=>by simp[runL] at h
 | n+1,s,e,s',Q,h,hQ=>by
  rw[iter]
  unfold runL at h
  split at h
  ·rename_i s1 h1
   exact ih s .normal s1 _ h1 (runL_sound ih n s1 e s' Q h hQ)
  ·rename_i r hne
   refine ih s e s' _ h ?_
   cases e with
   | normal=>exact absurd h (hne s')
   | exit id=>exact hQ
   | ret=>exact hQ
theorem exec_sound {C:Cs} {n:Nat}:∀(c:ACode) (s:St) (e:Ex) (s':St) (Q:Post),exec C n c s=some (e,s')→Q e s'→wpC C c s Q
 | .skip,s,e,s',Q,h,hQ=>by
  simp only[exec,Option.some.injEq,Prod.mk.injEq] at h
  obtain⟨rfl,rfl⟩:=h
  exact hQ
 | .ops l kill,s,e,s',Q,h,hQ=>by
  rw[wpC]
  unfold exec at h
  split at h
  ·rename_i s1 h1
   simp only[Option.some.injEq,Prod.mk.injEq] at h
   obtain⟨rfl,rfl⟩:=h
   rw[h1]
   exact hQ
  ·cases h
 | .seq a b,s,e,s',Q,h,hQ=>by
  rw[wpC]
  unfold exec at h
  split at h
  ·rename_i s1 h1
   exact exec_sound a s .normal s1 _ h1 (exec_sound b s1 e s' Q h hQ)
  ·rename_i r hne
   refine exec_sound a s e s' _ h ?_
   cases e with
   | normal=>exact absurd h (hne s')
   | exit id=>exact hQ
   | ret=>exact hQ
 | .cond c a b,s,e,s',Q,h,hQ=>by
  rw[wpC]
  unfold exec at h
  split at h
  ·rename_i hc
   rw[hc]
   exact⟨fun _=>exec_sound a s e s' Q h hQ,fun t=>by cases t⟩
  ·rename_i hc
   rw[hc]
   exact⟨fun t=>by (cases t),fun _=>exec_sound b s e s' Q h hQ⟩
  ·cases h
 | .block id c,s,e,s',Q,h,hQ=>by
  rw[wpC]
  unfold exec at h
  split at h
  ·rename_i id' s1 h1
   refine exec_sound c s (.exit id') s1 _ h1 ?_
   simp only
   split at h
   ·rename_i hid
    rw[if_pos hid]
    cases h
    exact hQ
   ·rename_i hid
    rw[if_neg hid]
    cases h
    exact hQ
  ·rename_i r hne
   refine exec_sound c s e s' _ h ?_
   cases e with
   | normal=>exact hQ
   | exit id'=>exact absurd h (hne id' s')
   | ret=>exact hQ
 | .loop c,s,e,s',Q,h,hQ=>by
  rw[wpC]
  unfold exec at h
  exact⟨n,runL_sound (fun s e s' Q=>exec_sound c s e s' Q) n s e s' Q h hQ⟩
 | .keep kt kh c,s,e,s',Q,h,hQ=>by
  rw[wpC]
  unfold exec at h
  exact exec_sound c _ e s' Q h hQ
 | .exit id,s,e,s',Q,h,hQ=>by
  simp only[exec,Option.some.injEq,Prod.mk.injEq] at h
  obtain⟨rfl,rfl⟩:=h
  exact hQ
 | .ret,s,e,s',Q,h,hQ=>by
  simp only[exec,Option.some.injEq,Prod.mk.injEq] at h
  obtain⟨rfl,rfl⟩:=h
  exact hQ
 | .next _ _ _ _ _,s,e,s',Q,h,hQ=>by simp[exec] at h
 | .nilq x m d live,s,e,s',Q,h,hQ=>by
  rw[wpC]
  unfold exec at h
  split at h
  ·rename_i hx
   cases h
   rw[hx]
   exact hQ
  ·rename_i hx
   cases h
   rw[hx]
   exact⟨fun e=>absurd e (by omega),hQ⟩
  ·cases h
def Good (P:Program) (T:List (Nat×AFun)):Prop:=∀ f A,tabF T f=some A→∃ fn,P.funcs[f]? = some fn∧mFun P fn A=true
theorem good_nil {P:Program}:Good P []:=by intro f A h;cases h
theorem good_cons {P:Program} {k:Nat} {fn:Func} {A:AFun} {T:List (Nat×AFun)} (hf:P.funcs[k]? = some fn) (hm:mFun P fn A=true) (h:Good P T):Good P ((k,A)::T):=by
 intro f B hB
 simp only[tabF] at hB
 split at hB
 ·rename_i e
  subst e
  cases hB
  exact⟨fn,hf,hm⟩
 ·exact h f B hB
def endsG (rs:List ARes) (kept:Bool) (new:Option Nat):Option (Ex×St)→Option AV
 | some (.normal,s)=>(ghanded s rs kept new).map fun p=>.tup (p.1::encs p.2)
 | some (.ret,s)=>(ghanded s rs kept new).map fun p=>.tup (p.1::encs p.2)
 | _=>none
def blocksOf:AV→Option Hp
 | .tup xs=>decs xs
 | _=>none
end Go.Am
namespace Go.Am
set_option linter.unusedVariables false
open Go.RowKit Go.ChangeShapes
section
variable {H:Type} {enc:TypeId×Value→H} {P:Program}
theorem post_of_below {f:Func} {s:ChangeSpec} {apart fresh handsOn again:Bool} {W W':World} {args:Array Value} {v:Value} {ds gs:List (DataW H)} {before pa pv:List MemPlace}
  (hW:DataW.Whole enc P f.params.toList s.vars apart W args.toList ds gs before) (hb:Below W.heap.size W W')
  (hres:∀(b:Nat) (sp:Nat→Bool) (hd:Bool),DataW.TrodAll enc P W' b sp hd f.resultTypes.toList (v.resultList f.resultTypes.size) (s.fn H (ds++gs)).results [])
  (hargs:∀ sp:Nat→Bool,(∀ p∈before,sp p.block=true)→DataW.TrodAll enc P W' 0 sp true f.params.toList args.toList (s.fn H (ds++gs)).args pa)
  (hvars:∀ sp:Nat→Bool,(∀ p∈before,sp p.block=true)→DataW.TrodVars enc P W' sp s.vars (s.fn H (ds++gs)).vars pv)
  (hps:before=pa++pv)
  (hok:∀(j:Nat) (t:TypeId) (r:Value),f.resultTypes[j]? = some t→(v.resultList f.resultTypes.size)[j]? = some r→Value.okWide P W' .any 0 t r) :
  s.post enc P f apart fresh handsOn again W args v W':=by
 have hlt:∀ p∈before,p.block<W.heap.size:=hW.lt
 refine⟨ds,gs,before,[],pa,pv,hW,hres _ _ _,hargs _ (fun p hp=>by simpa using hlt p hp),hvars _ (fun p hp=>by simpa using hlt p hp),World.keptBut_mono (fun p hp=>⟨hp, ?_⟩) (hb.frame _),fun _=>?_⟩
 ·subst hps
  rw[List.mem_append] at hp
  exact .inr hp
 ·obtain⟨_,_,_,_,_,hz,hn⟩:=hW
  refine⟨hok,_,_,([]++pa)++pv,⟨[]++pa,pv,trodAll_append (hargs _ (fun _ _=>rfl)) (hres _ _ _),hvars _ (fun _ _=>rfl),rfl,fun b off hp=>?_,fun ha=>?_⟩,fun p hp _=>?_⟩
  ·have hm:MemPlace.cell b off∈before:=by subst hps;simpa using hp
   have h1:=hz b off hm
   rw[← h1]
   exact hb.frozen (hlt _ hm)
  ·have:=hn ha
   subst hps
   simpa using this
  ·subst hps
   simpa using hp
end
theorem calls_true {P:Program} {f:FuncId} {sp:List AV→Option AV} (hc:Contract P f sp) {I:Nat→Prop} {w:World} {args:List AV} {vs:List Value} (h:sp args=some (.bool true)) (hTab:TabOk I w) (hv:VRs I w none args vs) (hI:∀ b,I b→b<w.heap.size) (hlt:f<sBase:=by decide) :
  Calls P f vs.toArray w fun e w'=>e=.returned (.bool true)∧Below w.heap.size w w':=by
 refine Calls.mono (hc.plain hlt I w args vs _ h hv hI hTab).2 fun e w' he=>?_
 obtain⟨v,rfl,hb,I',_,_,_,hr⟩:=he
 simp only[VR] at hr
 subst hr
 exact⟨rfl,hb⟩
end Go.Am
namespace Go.Am
open Go.RowKit
theorem ghanded2_frz {s:St} {rs:List ARes} {kept:Bool} {n1 n2:Option Nat} {r:AV} {h:Hp} (hx:ghanded2 s rs kept n1 n2=some (r,h)):(h.all fun p => !p.2.frz)=true:=by
 unfold ghanded2 at hx
 generalize [if kept=true then 0 else nope,nope,nope,n1.getD nope,n2.getD nope]=bs at *
 generalize (if kept=true then [0] else ([]:List Nat))=lk at *
 simp only[] at hx
 split at hx
 ·split at hx
  ·rename_i h0 hn hm
   split at hx
   ·simp only[Option.some.injEq,Prod.mk.injEq] at hx
    obtain⟨_,rfl⟩:=hx
    rw[List.all_append,List.all_append,gblks_frz h0,gblks_frz hn,gblks_frz hm]
    rfl
   ·cases hx
  ·cases hx
 ·cases hx
def endsG2 (rs:List ARes) (kept:Bool) (l:List (Option Nat×Option Nat)):Option (Ex×St)→Option AV
 | some (.normal,s)=>l.findSome? fun q=>(ghanded2 s rs kept q.1 q.2).map fun p=>.tup (p.1::encs p.2)
 | some (.ret,s)=>l.findSome? fun q=>(ghanded2 s rs kept q.1 q.2).map fun p=>.tup (p.1::encs p.2)
 | _=>none
def callH (T:List (Nat×AFun)) (L:Cs) (NW:Nat→Option Nat) (N2:Nat→List (Option Nat×Option Nat)) (m:Nat):Nat→Cs
 | 0,_,_=>none
 | n+1,f,args=>match tabF T (if f<gBase then f else f-gBase) with
  | some A=>if f<gBase then (if args.length=A.np then ends A.res (exec (callH T L NW N2 m n) m A.code { t:=argEnv 0 args,h:=[],g:=fun _=>0 }) else none)
   else (match (args[A.np]?).bind blocksOf with
    | some h=>if args.length=A.np+1 then (match N2 (f-gBase) with
     | []=>endsG A.res (hlook h 0).isSome (NW (f-gBase)) (exec (callH T L NW N2 m n) m A.code { t:=argEnv 0 (args.take A.np),h:=h,g:=fun _=>0 })
     | l=>endsG2 A.res (hlook h 0).isSome l (exec (callH T L NW N2 m n) m A.code { t:=argEnv 0 (args.take A.np),h:=h,g:=fun _=>0 })) else none
    | none=>none)
  | none=>L f args
theorem callH_contract {P:Program} (hm:P.follows .mixedOrders=true) {T:List (Nat×AFun)} (hT:Good P T) {L:Cs} (hL:∀ f,Contract P f (L f)) {NW:Nat→Option Nat} {N2:Nat→List (Option Nat×Option Nat)} (m:Nat):∀(n f:Nat),Contract P f (callH T L NW N2 m n f)
 | 0,f=>contract_none fun args=>rfl
 | n+1,f=>by
  cases hA:tabF T (if f<gBase then f else f-gBase) with
  | none=>exact (hL f).less fun args r h=>by unfold callH at h;rw[hA] at h;exact h
  | some A =>
   obtain⟨fn,hf,hfun⟩:=hT _ A hA
   by_cases hlt:f<gBase
   ·rw[if_pos hlt] at hA hf
    refine contract_of_run0 hm (fun f=>callH_contract hm hT hL (NW:=NW) (N2:=N2) m n f) hf hfun (sp:=callH T L NW N2 m (n+1) f) ?_
    intro args r h
    unfold callH at h
    rw[if_pos hlt,hA] at h
    simp only[if_pos hlt] at h
    split at h
    ·rename_i hl
     refine⟨hl, ?_⟩
     unfold ends at h
     split at h
     ·rename_i s he
      exact exec_sound _ _ _ _ _ he h
     ·rename_i s he
      exact exec_sound _ _ _ _ _ he h
     ·cases h
    ·cases h
   ·obtain⟨j,rfl⟩:=Nat.le.dest (Nat.le_of_not_lt hlt)
    rw[if_neg hlt,Nat.add_sub_cancel_left] at hA hf
    cases hN2:N2 j with
    | nil =>
     have:Contract P (gBase+j) (callH T L NW N2 m (n+1) (gBase+j)):=by
      refine gcontract_of_run (f:=j) hm (fun f=>callH_contract hm hT hL (NW:=NW) (N2:=N2) m n f) hf hfun ?_
      intro args h r h' hfrz hfrz' hs
      unfold callH at hs
      rw[if_neg hlt,Nat.add_sub_cancel_left,hA] at hs
      simp only[if_neg hlt,Nat.add_sub_cancel_left,hN2] at hs
      split at hs
      ·rename_i h1 hb
       split at hs
       ·rename_i hl
        have hl':args.length=A.np:=by simpa using hl
        have hg:(args++[AV.tup (encs h)])[A.np]? = some (.tup (encs h)):=by rw[← hl'];simp
        rw[hg] at hb
        simp only[Option.bind_some,blocksOf,decs_encs hfrz,Option.some.injEq] at hb
        subst hb
        have ht:(args++[AV.tup (encs h)]).take A.np=args:=by rw[← hl'];simp
        rw[ht] at hs
        refine⟨hl',(hlook h 0).isSome, ?_⟩
        have fin:∀ s,(ghanded s A.res (hlook h 0).isSome (NW j)).map (fun p=>AV.tup (p.1::encs p.2))=some (.tup (r::encs h'))→∃ new,ghanded s A.res (hlook h 0).isSome new=some (r,h'):=by
         intro s hx
         rw[Option.map_eq_some_iff] at hx
         obtain⟨p,hp,hx⟩:=hx
         simp only[AV.tup.injEq,List.cons.injEq] at hx
         obtain⟨h3,h4⟩:=hx
         refine⟨NW j, ?_⟩
         rw[hp]
         obtain⟨r',h''⟩:=p
         simp only[] at h3 h4
         subst h3
         rw[encs_inj (ghanded_frz hp) hfrz' h4]
        unfold endsG at hs
        split at hs
        ·rename_i s he
         exact exec_sound _ _ _ _ _ he (fin s hs)
        ·rename_i s he
         exact exec_sound _ _ _ _ _ he (fin s hs)
        ·cases hs
       ·cases hs
      ·cases hs
     exact this
    | cons p2 l2 =>
     have:Contract P (gBase+j) (callH T L NW N2 m (n+1) (gBase+j)):=by
      refine gcontract_of_run2 (f:=j) hm (fun f=>callH_contract hm hT hL (NW:=NW) (N2:=N2) m n f) hf hfun ?_
      intro args h r h' hfrz hfrz' hs
      unfold callH at hs
      rw[if_neg hlt,Nat.add_sub_cancel_left,hA] at hs
      simp only[if_neg hlt,Nat.add_sub_cancel_left,hN2] at hs
      split at hs
      ·rename_i h1 hb
       split at hs
       ·rename_i hl
        have hl':args.length=A.np:=by simpa using hl
        have hg:(args++[AV.tup (encs h)])[A.np]? = some (.tup (encs h)):=by rw[← hl'];simp
        rw[hg] at hb
        simp only[Option.bind_some,blocksOf,decs_encs hfrz,Option.some.injEq] at hb
        subst hb
        have ht:(args++[AV.tup (encs h)]).take A.np=args:=by rw[← hl'];simp
        rw[ht] at hs
        refine⟨hl',(hlook h 0).isSome, ?_⟩
        have fin:∀ s,(p2::l2).findSome? (fun q=>(ghanded2 s A.res (hlook h 0).isSome q.1 q.2).map (fun p=>AV.tup (p.1::encs p.2)))=some (.tup (r::encs h'))→∃ a b,ghanded2 s A.res (hlook h 0).isSome a b=some (r,h'):=by
         intro s hx
         obtain⟨q,_,hx⟩:=List.exists_of_findSome?_eq_some hx
         rw[Option.map_eq_some_iff] at hx
         obtain⟨p,hp,hx⟩:=hx
         simp only[AV.tup.injEq,List.cons.injEq] at hx
         obtain⟨h3,h4⟩:=hx
         refine⟨q.1,q.2, ?_⟩
         rw[hp]
         obtain⟨r',h''⟩:=p
         simp only[] at h3 h4
         subst h3
         rw[encs_inj (ghanded2_frz hp) hfrz' h4]
        unfold endsG2 at hs
        split at hs
        ·rename_i s he
         exact exec_sound _ _ _ _ _ he (fin s hs)
        ·rename_i s he
         exact exec_sound _ _ _ _ _ he (fin s hs)
        ·cases hs
       ·cases hs
      ·cases hs
     exact this
end Go.Am
namespace Go.Am
set_option linter.unusedVariables false
set_option linter.unusedSimpArgs false
open Go.RowKit Go.ChangeShapes
inductive Shp where
 | int (k:IntKind)
 | bool
 | sl (row:List Shp)
mutual
def okS:Shp→AV→Prop
 | .int k,.int k' n=>k'=k∧k.min≤n∧n≤k.max
 | .bool,.bool _=>True
 | .sl row,.lst n xs=>n≤maxLen∧xs.length=n*row.length∧∀ i,i<n→okR row ((xs.drop (i*row.length)).take row.length)
 | _,_=>False
def okR:List Shp→List AV→Prop
 | [],[]=>True
 | s::ss,x::xs=>okS s x∧okR ss xs
 | _,_=>False
end
def shpF (P:Program) (g:TypeId→Option (List Shp)):Nat→List Field→Option (List Shp)
 | _,[]=>some []
 | n,f::fs=>match g f.type with
  | some ks=>if f.offset=n∧P.cellsOf f.type=ks.length then (match shpF P g (n+ks.length) fs with|some r=>some (ks++r)|none=>none) else none
  | none=>none
def shp (P:Program):Nat→TypeId→Option (List Shp)
 | 0,_=>none
 | d+1,t=>match P.underlying t with
  | some .bool=>some [.bool]
  | some (.int k)=>some [.int k]
  | some (.slice e)=>match shp P d e with
   | some r=>if P.cellsOf e=r.length∧0<r.length then some [.sl r] else none
   | none=>none
  | some (.struct fs)=>match shpF P (shp P d) 0 fs.toList with
   | some r=>if P.cellsOf t=r.length then some r else none
   | none=>none
  | some (.array n e)=>match shp P d e with
   | some r=>if P.cellsOf e=r.length∧P.cellsOf t=n*r.length then some (List.replicate n r).flatten else none
   | none=>none
  | _=>none
theorem okR_append:∀ {a b:List Shp} {xs ys:List AV},okR a xs→okR b ys→okR (a++b) (xs++ys)
 | [],b,[],ys,_,h=>h
 | [],b,_::_,ys,h,_=>by simp[okR] at h
 | _::_,b,[],ys,h,_=>by simp[okR] at h
 | s::a,b,x::xs,ys,h,h'=>by
  simp only[okR,List.cons_append] at h ⊢
  exact⟨h.1,okR_append h.2 h'⟩
theorem okR_length:∀ {a:List Shp} {xs:List AV},okR a xs→xs.length=a.length
 | [],[],_=>rfl
 | [],_::_,h=>by simp[okR] at h
 | _::_,[],h=>by simp[okR] at h
 | s::a,x::xs,h=>by
  simp only[okR] at h
  simp[okR_length h.2]
theorem mapM_some {α β:Type} {f:α→Option β}:∀ {l:List α} {r:List β},l.mapM f=some r→l.length=r.length∧∀(i:Nat) (a:α),l[i]? = some a→∃ b,r[i]? = some b∧f a=some b
 | [],r,h=>by
  simp at h;subst h
  exact⟨rfl,fun i a h=>by simp at h⟩
 | x::l,r,h=>by
  simp only[List.mapM_cons] at h
  cases hx:f x with
  | none=>simp[hx] at h
  | some y =>
   cases hl:l.mapM f with
   | none=>simp[hx,hl] at h
   | some ys =>
    simp[hx,hl] at h
    subst h
    obtain⟨h1,h2⟩:=mapM_some hl
    refine⟨by simp[h1],fun i a ha=>?_⟩
    cases i with
    | zero=>simp at ha;subst ha;exact⟨y,rfl,hx⟩
    | succ i=>simpa using h2 i a (by simpa using ha)
section
variable {H:Type} {enc:TypeId×Value→H} {P:Program} {w:World} {sp:Nat→Bool} {held:Bool}
theorem rows {ss:List Shp} {I:Nat→Prop}:∀(n:Nat) (cs:List Value),cs.length=n*ss.length→(∀ i,i<n→∃ xs,okR ss xs∧VRs I w none xs ((cs.drop (i*ss.length)).take ss.length)) →
  ∃ xs:List AV,xs.length=n*ss.length∧(∀ i,i<n→okR ss ((xs.drop (i*ss.length)).take ss.length))∧VRs I w none xs cs
 | 0,cs,hl,h=>by
  have:cs=[]:=by simpa using hl
  subst this
  exact⟨[],by simp,fun i hi=>by omega,by simp[VRs]⟩
 | n+1,cs,hl,h=>by
  rw[Nat.succ_mul] at hl
  obtain⟨x0,hk0,hv0⟩:=h 0 (by omega)
  have hx0:=okR_length hk0
  obtain⟨xs,hxl,hxk,hxv⟩:=rows (ss:=ss) (I:=I) n (cs.drop ss.length) (by simp;omega) (fun i hi=>by
   obtain⟨y,hy,hyv⟩:=h (i+1) (by omega)
   refine⟨y,hy, ?_⟩
   rw[List.drop_drop]
   rw[Nat.succ_mul,Nat.add_comm] at hyv
   exact hyv)
  refine⟨x0++xs,by simp[hx0,hxl,Nat.succ_mul];omega,fun i hi=>?_, ?_⟩
  ·cases i with
   | zero =>
    simp only[Nat.zero_mul,List.drop_zero]
    rw[List.take_append_of_le_length (by omega),List.take_of_length_le (by omega)]
    exact hk0
   | succ i =>
    have:=hxk i (by omega)
    have hd:(x0++xs).drop ((i+1)*ss.length)=xs.drop (i*ss.length):=by
     rw[Nat.succ_mul,Nat.add_comm,← List.drop_drop,← hx0,List.drop_left]
    rw[hd]
    exact this
  ·have:cs=cs.take ss.length++cs.drop ss.length:=(List.take_append_drop _ _).symm
   rw[this]
   simp only[Nat.zero_mul,List.drop_zero] at hv0
   exact hv0.append hxv
theorem okR_rep {ss:List Shp}:∀(n:Nat) (xs:List AV),xs.length=n*ss.length→(∀ i,i<n→okR ss ((xs.drop (i*ss.length)).take ss.length))→okR (List.replicate n ss).flatten xs
 | 0,xs,hl,_=>by
  have:xs=[]:=by simpa using hl
  subst this
  simp[okR]
 | n+1,xs,hl,h=>by
  rw[Nat.succ_mul] at hl
  rw[List.replicate_succ,List.flatten_cons]
  have:xs=xs.take ss.length++xs.drop ss.length:=(List.take_append_drop _ _).symm
  rw[this]
  refine okR_append (by simpa using h 0 (by omega)) (okR_rep n _ (by simp;omega) fun i hi=>?_)
  have:=h (i+1) (by omega)
  rw[Nat.succ_mul,Nat.add_comm] at this
  rw[List.drop_drop]
  exact this
theorem cell_lt {a:Addr} {v:Value} (h:w.cell? a=some v):a.block<w.heap.size∧a.spot=none:=by
 unfold World.cell? at h
 split at h
 ·rename_i c _ _ hc
  refine⟨(Array.getElem?_eq_some_iff.1 hc).1, ?_⟩
  split at h
  ·cases h
  ·rename_i hs;simpa using hs
 ·cases h
theorem trod_cells:∀(fuel:Nat) (t:TypeId) (cs:List Value) (d:DataW H) (ps:List MemPlace) (dep:Nat) (ss:List Shp),shp P dep t=some ss→DataW.trod enc P w 0 sp held fuel t cs=some (d,ps) →
  ∃ xs,okR ss xs∧VRs (fun b=>b<w.heap.size) w none xs cs
 | 0,t,cs,d,ps,dep,ss,_,h=>by simp[DataW.trod] at h
 | fuel+1,t,cs,d,ps,0,ss,hs,h=>by simp[shp] at hs
 | fuel+1,t,cs,d,ps,dep+1,ss,hs,h=>by
  unfold shp at hs
  unfold DataW.trod at h
  split at hs
  ·-- bool
   rename_i hu
   cases hs
   rw[hu] at h
   split at h<;>try (first|(cases h;done)|(simp_all;done))
   rename_i b _
   exact⟨[.bool b],by simp[okR,okS],by simp[VRs,VR]⟩
  ·rename_i k hu
   cases hs
   rw[hu] at h
   split at h<;>try (first|(cases h;done)|(simp_all;done))
   rename_i k1 k2 n e
   cases e
   split at h
   ·rename_i hk
    obtain⟨rfl,hw⟩:=hk
    simp only[Lit.wf,Bool.and_eq_true,decide_eq_true_eq] at hw
    exact⟨[.int k2 n],by simp[okR,okS,hw],by simp[VRs,VR]⟩
   ·cases h
  ·rename_i e hu
   split at hs
   ·rename_i r hr
    split at hs
    ·rename_i hsz
     cases hs
     rw[hu] at h
     split at h<;>try (first|(cases h;done)|(simp_all;done))
     ·exact⟨[.lst 0 []],by simp[okR,okS],by simp[VRs,VR]⟩
     ·rename_i e1 a len cap he
      cases he
      simp only[] at h
      split at h
      ·rename_i hc
       cases hel:(List.range len).mapM (fun i=>(w.cells? 0 (a.add (i*P.cellsOf e)) (P.cellsOf e)).bind (DataW.trod enc P w 0 sp held fuel e)) with
       | none=>rw[hel] at h;cases h
       | some elems =>
        obtain⟨h1,h2⟩:=mapM_some hel
        rw[hsz.1] at h2
        by_cases hl0:len=0
        ·subst hl0
         exact⟨[.lst 0 []],by simp[okR,okS],by simp[VRs,VR]⟩
        ·have hcell:∀ i,i<len→∃ us,w.cells? 0 (a.add (i*r.length)) r.length=some us∧∃ x,DataW.trod enc P w 0 sp held fuel e us=some x:=by
          intro i hi
          obtain⟨x,_,hx⟩:=h2 i i (by simp[hi])
          rw[Option.bind_eq_some_iff] at hx
          obtain⟨us,hus,hx⟩:=hx
          exact⟨us,hus,x,hx⟩
         have hcs:∀ i us,w.cells? 0 (a.add (i*r.length)) r.length=some us→us.length=r.length∧∀ j v,us[j]? = some v→w.cell? ((a.add (i*r.length)).add j)=some v:=by
          intro i us hus
          unfold World.cells? at hus
          rw[if_pos (Nat.zero_le _)] at hus
          obtain⟨g1,g2⟩:=mapM_some hus
          refine⟨by simpa using g1.symm,fun j v hv=>?_⟩
          have hj:j<r.length:=by
           have:=(List.getElem?_eq_some_iff.1 hv).1
           simp at g1;omega
          obtain⟨b,hb,hb2⟩:=g2 j j (by simp[hj])
          rw[hv] at hb;cases hb
          exact hb2
         obtain⟨u0,hu0,_⟩:=hcell 0 (by omega)
         have h00:=(hcs 0 u0 hu0)
         have hlt0:0<u0.length:=by omega
         have hc0:=h00.2 0 u0[0] (List.getElem?_eq_getElem hlt0)
         simp only[Nat.zero_mul,Addr.add,if_true] at hc0
         obtain⟨hblk,hspot⟩:=cell_lt hc0
         have hadd:∀ n,a.add n=⟨a.block,a.off+n,none⟩:=by
          intro n
          unfold Addr.add
          split
          ·rename_i hn;subst hn;cases a;simp at hspot;subst hspot;rfl
          ·rfl
         -- the whole row
         have key:∀ n,n≤len→∃ us:List Value,us.length=n*r.length∧rowAt w a.block a.off us∧∀ i,i<n→∃ x,DataW.trod enc P w 0 sp held fuel e ((us.drop (i*r.length)).take r.length)=some x:=by
          intro n
          induction n with
          | zero=>exact fun _=>⟨[],by simp,fun i v hv=>by simp at hv,fun i hi=>by omega⟩
          | succ n ih =>
           intro hn
           obtain⟨us,g1,g2,g3⟩:=ih (by omega)
           obtain⟨vs,hvs,x,hx⟩:=hcell n (by omega)
           obtain⟨q1,q2⟩:=hcs n vs hvs
           refine⟨us++vs,by simp[g1,q1,Nat.succ_mul],fun i v hv=>?_,fun i hi=>?_⟩
           ·rw[List.getElem?_append] at hv
            split at hv
            ·exact g2 i v hv
            ·rename_i hge
             have:=q2 _ v hv
             rw[hadd,Addr_add] at this
             rw[← this]
             congr 2
             omega
           ·by_cases hin:i=n
            ·subst hin
             refine⟨x, ?_⟩
             rw[List.drop_append_of_le_length (by omega),List.drop_of_length_le (by omega),List.nil_append,List.take_of_length_le (by omega)]
             exact hx
            ·obtain⟨y,hy⟩:=g3 i (by omega)
             refine⟨y, ?_⟩
             have hle:(i+1)*r.length≤n*r.length:=Nat.mul_le_mul_right _ (by omega)
             rw[Nat.succ_mul] at hle
             rw[List.drop_append_of_le_length (by omega),List.take_append_of_le_length (by simp;omega)]
             exact hy
         obtain⟨us,g1,g2,g3⟩:=key len (Nat.le_refl _)
         obtain⟨xs,x1,x2,x3⟩:=rows (w:=w) (ss:=r) len us g1 (fun i hi=>by
          obtain⟨⟨d',ps'⟩,hx⟩:=g3 i hi
          exact trod_cells fuel e _ d' ps' dep r hr hx)
         refine⟨[.lst len xs], ?_, ?_⟩
         ·simp only[okR,okS,and_true]
          exact⟨by omega,x1,x2⟩
         ·simp only[VRs,VR,and_true]
          refine .inr ⟨a.block,a.off,cap,us, ?_,hc.2.1,hc.2.2,hblk,g2,x3⟩
          cases a;simp at hspot;subst hspot;rfl
      ·cases h
    ·cases hs
   ·cases hs
  ·rename_i fs hu
   split at hs
   ·rename_i r hr
    split at hs
    ·rename_i hsz
     cases hs
     rw[hu] at h
     split at h<;>try (first|(cases h;done)|(simp_all;done))
     rename_i fs1 hq
     cases hq
     rename_i cs x1 cs2
     split at h
     ·rename_i hcl
      cases hel:fs.toList.mapM (fun f=>DataW.trod enc P w 0 sp held fuel f.type ((cs.drop f.offset).take (P.cellsOf f.type))) with
      | none=>rw[hel] at h;cases h
      | some elems =>
       obtain⟨h1,h2⟩:=mapM_some hel
       have key:∀(l:List Field) (n:Nat) (q:List Shp),shpF P (shp P dep) n l=some q→(∀ f∈l,∃ x,DataW.trod enc P w 0 sp held fuel f.type ((cs.drop f.offset).take (P.cellsOf f.type))=some x)→(cs.drop n).length=q.length →
         ∃ xs,okR q xs∧VRs (fun b=>b<w.heap.size) w none xs (cs.drop n):=by
        intro l
        induction l with
        | nil =>
         intro n q hq _ hlen
         simp only[shpF,Option.some.injEq] at hq
         subst hq
         have:cs.drop n=[]:=List.length_eq_zero_iff.1 (by simpa using hlen)
         rw[this]
         exact⟨[],by simp[okR],by simp[VRs]⟩
        | cons f l ih =>
         intro n q hq hall hlen
         unfold shpF at hq
         split at hq
         ·rename_i ks hks
          split at hq
          ·rename_i hoff
           split at hq
           ·rename_i q' hq'
            cases hq
            obtain⟨⟨d',ps'⟩,hx⟩:=hall f (by simp)
            rw[hoff.1,hoff.2] at hx
            obtain⟨xs,k1,k2⟩:=trod_cells fuel f.type _ d' ps' dep ks hks hx
            obtain⟨ys,k3,k4⟩:=ih _ _ hq' (fun f hf=>hall f (by simp[hf])) (by simp at hlen ⊢;omega)
            refine⟨xs++ys,okR_append k1 k3, ?_⟩
            have:cs.drop n=(cs.drop n).take ks.length++cs.drop (n+ks.length):=by
             rw[← List.drop_drop];exact (List.take_append_drop _ _).symm
            rw[this]
            exact k2.append k4
           ·cases hq
          ·cases hq
         ·cases hq
       have:=key fs.toList 0 ss hr (fun f hf=>by
        obtain⟨i,hi⟩:=List.getElem?_of_mem hf
        obtain⟨b,_,hb⟩:=h2 i f hi
        exact⟨b,hb⟩) (by simp;omega)
       simpa using this
     ·cases h
    ·cases hs
   ·cases hs
  ·rename_i n e hu
   split at hs
   ·rename_i r hr
    split at hs
    ·rename_i hsz
     cases hs
     rw[hu] at h
     split at h<;>try (first|(cases h;done)|(simp_all;done))
     rename_i n1 e1 hq
     cases hq
     rename_i cs x1 cs2
     split at h
     ·rename_i hcl
      cases hel:(List.range n).mapM (fun i=>DataW.trod enc P w 0 sp held fuel e ((cs.drop (i*P.cellsOf e)).take (P.cellsOf e))) with
      | none=>rw[hel] at h;cases h
      | some elems =>
       obtain⟨h1,h2⟩:=mapM_some hel
       obtain⟨xs,x1,x2,x3⟩:=rows (w:=w) (I:=fun b=>b<w.heap.size) (ss:=r) n cs (by omega) (fun i hi=>by
        obtain⟨⟨d',ps'⟩,_,hx⟩:=h2 i i (by simp[hi])
        rw[hsz.1] at hx
        exact trod_cells fuel e _ d' ps' dep r hr hx)
       exact⟨xs,okR_rep n xs x1 x2,x3⟩
     ·cases h
    ·cases hs
   ·cases hs
  ·cases hs
end
end Go.Am
namespace Go.Am
set_option linter.unusedVariables false
set_option linter.unusedSimpArgs false
open Go.RowKit Go.ChangeShapes
def argOk (P:Program) (t:TypeId) (x:AV):Prop :=
 match isAggT P t with
 | true=>∃ xs ss,x=.agg xs∧shp P 20 t=some ss∧okR ss xs
 | false=>∃ s,shp P 20 t=some [s]∧okS s x
def argsOk (P:Program):List TypeId→List AV→Prop
 | [],[]=>True
 | t::ts,x::xs=>argOk P t x∧argsOk P ts xs
 | _,_=>False
def shaped (P:Program) (t:TypeId):Bool :=
 match shp P 20 t with
 | some ss=>isAggT P t||decide (ss.length=1)
 | none=>false
section
variable {H:Type} {enc:TypeId×Value→H} {P:Program} {W W':World}
theorem arg_read {t:TypeId} {v:Value} {d:DataW H} {ps:List MemPlace} {sp:Nat→Bool} {held:Bool} {base:Nat} (hs:shaped P t=true) (hv:Value.okWide P W .any base t v) (h:DataW.Trod enc P W 0 sp held t v d ps) :
  ∃ x,argOk P t x∧VR (fun b=>b<W.heap.size) W none x v:=by
 obtain⟨fuel,h⟩:=h
 unfold shaped at hs
 split at hs
 ·rename_i ss hss
  obtain⟨xs,h1,h2⟩:=trod_cells fuel t _ d ps 20 ss hss h
  unfold argOk
  cases hagg:isAggT P t with
  | true =>
   unfold isAggT at hagg
   have hcs:∃ cs,v=.agg cs:=by
    unfold Value.okWide at hv
    split at hagg
    ·rename_i fs hu;rw[hu] at hv;obtain⟨cs,rfl,_⟩:=hv;exact⟨cs,rfl⟩
    ·rename_i n e hu;rw[hu] at hv;obtain⟨cs,rfl,_⟩:=hv;exact⟨cs,rfl⟩
    ·cases hagg
   obtain⟨cs,rfl⟩:=hcs
   refine⟨.agg xs,⟨xs,ss,rfl,hss,h1⟩, ?_⟩
   simp only[VR]
   exact⟨cs.toList,by simp,h2⟩
  | false =>
   rw[hagg] at hs
   simp only[Bool.false_or,decide_eq_true_eq] at hs
   match ss,xs,hs,h1,h2 with
   | [s],[x],_,h1,h2 =>
    simp only[okR,and_true] at h1
    refine⟨x,⟨s,hss,h1⟩, ?_⟩
    cases hc:v.cells.toList with
    | nil=>rw[hc] at h2;simp[VRs] at h2
    | cons u us =>
     rw[hc] at h2
     cases us with
     | cons _ _=>simp[VRs] at h2
     | nil =>
      simp only[VRs,and_true] at h2
      have hvu:v=u:=by
       unfold Value.cells at hc
       split at hc
       ·rename_i cs
        exfalso
        unfold isAggT at hagg
        unfold Value.okWide at hv
        split at hv
        ·rename_i hu;rw[hu] at hagg;cases hagg
        ·rename_i hu;rw[hu] at hagg;cases hagg
        ·unfold Cell.okWide at hv
         split at hv<;>try (simp_all;done)
         unfold Cell.ok at hv
         split at hv<;>simp_all
       ·simpa using hc
      rw[hvu]
      exact h2
   | [],_,hs,_,_=>simp at hs
   | _::_::_,_,hs,_,_=>simp at hs
   | [_],[],_,h1,_=>simp[okR] at h1
   | [_],_::_::_,_,h1,_=>simp[okR] at h1
 ·cases hs
theorem args_read {sp:Nat→Bool} {held:Bool} {base:Nat}:∀ {ts:List TypeId} {vs:List Value} {ds:List (DataW H)} {ps:List MemPlace},(∀ t∈ts,shaped P t=true) →
  (∀(j:Nat) t v,ts[j]? = some t→vs[j]? = some v→Value.okWide P W .any base t v)→DataW.TrodAll enc P W 0 sp held ts vs ds ps →
  ∃ xs,argsOk P ts xs∧VRs (fun b=>b<W.heap.size) W none xs vs
 | [],vs,ds,ps,_,_,h=>by
  obtain⟨rfl,rfl,rfl⟩:=trodAll_nil h
  exact⟨[],by simp[argsOk],by simp[VRs]⟩
 | t::ts,vs,ds,ps,hs,hv,h=>by
  obtain⟨v,vs',d,ds',p,q,rfl,rfl,rfl,h1,h2⟩:=trodAll_cons h
  obtain⟨x,hx,hxv⟩:=arg_read (hs t (by simp)) (hv 0 t v rfl rfl) h1
  obtain⟨xs,hxs,hxsv⟩:=args_read (fun t ht=>hs t (by simp[ht])) (fun j t v hj hv'=>hv (j+1) t v (by simpa using hj) (by simpa using hv')) h2
  exact⟨x::xs,⟨hx,hxs⟩,by simp only[VRs];exact⟨hxv,hxsv⟩⟩
theorem trodAll_stays (hl:laidOutB P=true) {sp:Nat→Bool}:∀ {ts:List TypeId} {vs:List Value} {ds:List (DataW H)} {ps:List MemPlace},(∀ t∈ts,P.readableRec t=true∧t<P.types.size) →
  DataW.TrodAll enc P W 0 (fun _=>true) true ts vs ds ps→(∀ x∈ps,W.sameAt W' x)→(∀ x∈ps,sp x.block=true)→DataW.TrodAll enc P W' 0 sp true ts vs ds ps
 | [],vs,ds,ps,_,h,_,_=>by
  obtain⟨rfl,rfl,rfl⟩:=trodAll_nil h
  exact trodAll_mk0
 | t::ts,vs,ds,ps,hr,h,hs,hsp=>by
  obtain⟨v,vs',d,ds',p,q,rfl,rfl,rfl,h1,h2⟩:=trodAll_cons h
  exact trodAll_cons_mk (WideElems.Trod_stays hl (hr t (by simp)).1 (hr t (by simp)).2 h1 (fun x hx=>hs x (by simp[hx])) (fun x hx=>hsp x (by simp[hx])))
   (trodAll_stays hl (fun t ht=>hr t (by simp[ht])) h2 (fun x hx=>hs x (by simp[hx])) (fun x hx=>hsp x (by simp[hx])))
theorem trodAll_len:∀ {ts:List TypeId} {vs:List Value} {ds:List (DataW H)} {ps:List MemPlace} {sp:Nat→Bool} {held:Bool} {base:Nat},DataW.TrodAll enc P W base sp held ts vs ds ps→ds.length=ts.length
 | [],vs,ds,ps,_,_,_,h=>by
  obtain⟨rfl,rfl,rfl⟩:=trodAll_nil h
  rfl
 | t::ts,vs,ds,ps,_,_,_,h=>by
  obtain⟨v,vs',d,ds',p,q,rfl,rfl,rfl,h1,h2⟩:=trodAll_cons h
  simp[trodAll_len h2]
theorem law_gate {f:FuncId} {fn:Func} {s:ChangeSpec} {apart fresh handsOn again:Bool} {args:Array Value} {ds gs:List (DataW H)} {before:List MemPlace} {base tb:Nat} (hl:laidOutB P=true)
  (hvars:s.vars=[]) (hfn:∀ ds:List (DataW H),ds.length=fn.params.toList.length→(s.fn H ds).results=[.lit (.bool true)]∧(s.fn H ds).args=ds∧(s.fn H ds).vars=[])
  (ht:(fn.params.toList.all fun t=>P.readableRec t&&(decide (t<P.types.size)&&shaped P t))=true) (hres:fn.resultTypes=#[tb]) (hb:P.underlying tb=some .bool)
  (hval:∀(j:Nat) t v,fn.params[j]? = some t→args[j]? = some v→Value.okWide P W .any base t v)
  (hW:DataW.Whole enc P fn.params.toList s.vars apart W args.toList ds gs before) {sp:List AV→Option AV} (hc:Contract P f sp) (hTab:TabOk (fun b=>b<W.heap.size) W) (hsp:∀ xs,argsOk P fn.params.toList xs→sp xs=some (.bool true)) (hlt:f<sBase:=by decide) :
  Calls P f args W fun e W'=>∃ v,e=.returned v∧s.post enc P fn apart fresh handsOn again W args v W':=by
 have hW':=hW
 obtain⟨p,q,hA,hV,rfl,hfz,hnd⟩:=hW
 rw[hvars] at hV
 obtain⟨rfl,rfl⟩:=trodVars_none hV
 rw[List.all_eq_true] at ht
 have ht':∀ t∈fn.params.toList,P.readableRec t=true∧t<P.types.size∧shaped P t=true:=fun t h=>by
  have:=ht t h
  simp only[Bool.and_eq_true,decide_eq_true_eq] at this
  exact this
 obtain⟨xs,h1,h2⟩:=args_read (base:=base) (fun t h=>(ht' t h).2.2) (fun j t v hj hv=>hval j t v (by simpa using hj) (by simpa using hv)) hA
 have hcall:=calls_true hc (hsp xs h1) hTab h2 (fun b h=>h) hlt
 simp only[List.append_nil] at hW'
 have e:args.toList.toArray=args:=by simp
 rw[e] at hcall
 obtain⟨f1,f2,f3⟩:=hfn ds (trodAll_len hA)
 refine Calls.mono hcall fun e W' ⟨he,hbl⟩=>?_
 subst he
 have hlt:∀ x∈p,x.block<W.heap.size:=fun x hx=>hW'.lt x hx
 refine⟨_,rfl,post_of_below (pa:=p) (pv:=[]) hW' hbl (fun b sp hd=>?_) (fun sp hsp=>?_) (fun sp _=>?_) (by simp) ?_⟩
 ·rw[List.append_nil,f1,hres]
  exact trodAll_cons_mk (shut_bool hb _) trodAll_mk0
 ·rw[List.append_nil,f2]
  exact trodAll_stays hl (fun t h=>⟨(ht' t h).1,(ht' t h).2.1⟩) hA (fun x hx=>hbl.same (hlt x hx)) hsp
 ·rw[List.append_nil,f3,hvars]
  rfl
 ·exact ok_one hres rfl (okWide_bool_mk hb _)
end
end Go.Am
