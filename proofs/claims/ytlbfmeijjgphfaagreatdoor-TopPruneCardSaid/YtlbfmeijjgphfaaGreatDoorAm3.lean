/- AM: strings, and rows that bear their type. -/
import Derived.Test.YtlbfmeijjgphfaaGreatDoorAm2
import Derived.Lib.AppendStr
import Derived.Lib.Strings
import Derived.Laws.BytesString
import Derived.Test.YtlbfmeijjgphfaaGreatDoorAm1
import Derived.Lib.SliceRun
set_option linter.unusedVariables false
set_option linter.unusedSimpArgs false
namespace Go.Am
set_option linter.unusedSimpArgs false
set_option linter.unusedVariables false
open Go.RowKit
section
variable {P:Program} {w0:Base} {I0:Nat→Prop} {N:Nat} {I:Nat→Prop} {ρ:Nat→Place} {s:St} {a:Act} {w:World} {M:Option Mode}
theorem R.touch (h:R w0 I0 N I ρ s a w) {q:Nat} (hm:w0.mine q) (hn:¬ I q) (hu:∀ b k σ,hlook s.h b=some k→ρ b≠some (q,σ)) {w':World}
  (hos:w'.os=w.os) (htp:w'.tape=w.tape) (hou:w'.output=w.output) (hsz:w.heap.size≤w'.heap.size) (hoth:∀ j,j<w.heap.size→j≠q→w'.heap[j]? = w.heap[j]?):R w0 I0 N I ρ s a w':=by
 have hcell:∀ j,I j→∀ off,w'.cell? ⟨j,off,none⟩=w.cell? ⟨j,off,none⟩:=fun j hi off=>cell_of_heap (hoth j (h.imm j hi) (fun e=>hn (e▸hi))) off
 have hbel:w0.upto w':=h.below.trans hos htp hou hsz (fun j hj=>hoth j (Nat.lt_of_lt_of_le (Nat.lt_of_not_le fun e=>hj (.inl e)) h.below.size) (fun e=>hj (e▸hm)))
 refine { defers:=h.defers,tab:=VR.mono (fun _ h=>h) hcell _ _ (M:=none) (M':=none) trivial h.tab,size:=h.size,below:=hbel,imm:=fun b hi=>Nat.lt_of_lt_of_le (h.imm b hi) hsz,old:=h.old,new:=h.new,kept:=h.kept,tm:=fun t=>VR.mono (fun _ h=>h) hcell _ _ (Mode.le_refl _) (h.tm t),hp:=fun b k hk=>?_,inj:=h.inj }
 refine BlkOk.mono (fun _ h=>h) (fun _ _ _ _ h=>h) hcell (fun r σ e=>?_) (Mode.le_refl _) (h.hp b k hk)
 refine hoth r ?_ (fun e'=>hu b k σ hk (e'▸e))
 have:=h.hp b k hk
 rw[e] at this
 exact this.lt
theorem R.join (h:R w0 I0 N I ρ s a w) (d r esz σ:Nat) (cs:List AV) (hm:w0.mine r) (hn:¬ I r) (hu:∀ b k σ,hlook s.h b=some k→ρ b≠some (r,σ))
  (hok:∀ M':Option Mode,Mode.le (modeOf s ρ) M'→BlkOk w0 I w M' (some (r,σ)) ⟨cs,false,esz⟩) :
  R w0 I0 N I (fun b=>if b=d then some (r,σ) else ρ b) ⟨s.t,hput s.h d ⟨cs,false,esz⟩,bump d s.g⟩ a w:=by
 have hM:Mode.le (modeOf s ρ) (modeOf ⟨s.t,hput s.h d ⟨cs,false,esz⟩,bump d s.g⟩ (fun b=>if b=d then some (r,σ) else ρ b)):=by
  refine⟨fun b=>?_,fun b g L hg hA=>?_⟩
  ·show s.g b≤bump d s.g b
   unfold bump;split<;>omega
  ·simp only[aliveA,bump,hlook_hput] at hA ⊢
   by_cases hbd:b=d
   ·subst hbd
    rw[if_pos rfl] at hA
    rw[if_neg (by simp only[] at hg;omega)] at hA
    cases hA
   ·simp only[if_neg hbd,if_neg (Ne.symm hbd)] at hA
    exact hA
 refine { defers:=h.defers,tab:=h.tab,size:=h.size,below:=h.below,imm:=h.imm,old:=h.old,new:=h.new,kept:=kept_bump h d _,tm:=fun t=>VR.mono (fun _ h=>h) (fun _ _ _=>rfl) _ _ hM (h.tm t),hp:=fun b k hk=>?_,inj:=?_ }
 ·simp only[hlook_hput] at hk
  by_cases hbd:d=b
  ·subst hbd
   rw[if_pos rfl] at hk
   cases hk
   simp only[if_true]
   exact hok _ hM
  ·rw[if_neg hbd] at hk
   rw[if_neg (Ne.symm hbd)]
   exact BlkOk.mono (fun _ h=>h) (fun _ _ _ _ h=>h) (fun _ _ _=>rfl) (fun _ _ _=>rfl) hM (h.hp b k hk)
 ·intro b b' k k' r' σ1 σ2 hk hk' hp hp'
  simp only[hlook_hput] at hk hk'
  by_cases hbd:b=d<;>by_cases hbd':b'=d
  ·rw[hbd,hbd']
  ·rw[if_pos hbd] at hp
   rw[if_neg hbd'] at hp'
   rw[if_neg (Ne.symm hbd')] at hk'
   cases hp
   exact absurd hp' (hu _ _ _ hk')
  ·rw[if_neg hbd] at hp
   rw[if_pos hbd'] at hp'
   rw[if_neg (Ne.symm hbd)] at hk
   cases hp'
   exact absurd hp (hu _ _ _ hk)
  ·rw[if_neg hbd] at hp
   rw[if_neg hbd'] at hp'
   rw[if_neg (Ne.symm hbd)] at hk
   rw[if_neg (Ne.symm hbd')] at hk'
   exact h.inj b b' k k' r' σ1 σ2 hk hk' hp hp'
theorem rowTag_mod (t:Nat):rowTag t % 4096=1:=by unfold rowTag;omega
theorem rowTag_div (t:Nat):rowTag t/4096=2*t+1:=by unfold rowTag;omega
theorem rowTag_ne (t:Nat):rowTag t≠mapTag:=by unfold rowTag mapTag;omega
theorem varTag_div (t:Nat):varTag t/4096=2*t+2:=by unfold varTag;omega
theorem varTag_ne (t:Nat):varTag t≠mapTag:=by unfold varTag mapTag;omega
theorem varTag_ge (t:Nat):¬ varTag t<4096:=by unfold varTag;omega
theorem rowTag_ge (t:Nat):¬ rowTag t<4096:=by unfold rowTag;omega
theorem TyOk.row {r t:Nat} {k:Blk} (h:TyOk w r k) (he:k.esz=rowTag t):∃ arr,w.heap[r]? = some (.cells arr t (0,0)):=by
 unfold TyOk at h
 rw[he,rowTag_div,show (2*t+1-1)/2=t by omega] at h
 rcases h with h|⟨arr,h,_⟩
 ·exact absurd h (rowTag_ge t)
 ·exact⟨arr,h⟩
theorem TyOk.var {r t:Nat} {k:Blk} (h:TyOk w r k) (he:k.esz=varTag t):∃ arr,w.heap[r]? = some (.cells arr t (0,0))∧arr.size=k.cs.length:=by
 unfold TyOk at h
 rw[he,varTag_div,show (2*t+2-1)/2=t by omega] at h
 rcases h with h|⟨arr,h,h2⟩
 ·exact absurd h (varTag_ge t)
 ·exact⟨arr,h,h2 (by omega)⟩
theorem byteAV_VRs:∀(l:List UInt8),VRs I w M (l.map byteAV) (l.map fun c=>.int .u8 (c.toNat:Int))
 | []=>by simp[VRs]
 | c::l=>by
  simp only[List.map_cons,VRs]
  exact⟨by simp[VR,byteAV],byteAV_VRs l⟩
theorem strCells_eq (b:ByteArray):Lib.strCells b=b.data.toList.map fun c=>.int .u8 (c.toNat:Int):=by
 simp[Lib.strCells]
theorem bytesOf_VRs:∀ {xs:List AV} {l:List UInt8} {us:List Value},bytesOf xs=some l→VRs I w M xs us→us=l.map fun c=>.int .u8 (c.toNat:Int)
 | [],l,us,h,hv=>by
  simp[bytesOf] at h
  subst h
  cases us with
  | nil=>rfl
  | cons u us=>simp[VRs] at hv
 | x::xs,l,us,h,hv=>by
  cases us with
  | nil=>simp[VRs] at hv
  | cons u us =>
   simp only[VRs] at hv
   cases x<;>try (simp[bytesOf] at h;done)
   rename_i k n
   cases k<;>try (simp[bytesOf] at h;done)
   simp only[bytesOf] at h
   split at h
   ·rename_i hn
    split at h
    ·rename_i l' hl
     cases h
     have hu:=VR_int hv.1
     have e:=bytesOf_VRs hl hv.2
     subst hu
     rw[e]
     simp only[List.map_cons,List.cons.injEq,and_true,Value.int.injEq,true_and]
     have:(UInt8.ofNat n.toNat).toNat=n.toNat:=by
      rw[UInt8.toNat_ofNat']
      omega
     rw[this]
     omega
    ·cases h
   ·cases h
theorem bytesOf_len:∀ {xs:List AV} {l:List UInt8},bytesOf xs=some l→l.length=xs.length
 | [],l,h=>by simp[bytesOf] at h;subst h;rfl
 | x::xs,l,h=>by
  cases x<;>try (simp[bytesOf] at h;done)
  rename_i k n
  cases k<;>try (simp[bytesOf] at h;done)
  simp only[bytesOf] at h
  split at h
  ·split at h
   ·rename_i l' hl
    cases h
    simp[bytesOf_len hl]
   ·cases h
  ·cases h
section ops
variable {o:Oper} {ao:AOper} {C:Cs}
theorem showB_sound (h:R w0 I0 N I ρ s a w) {fp:List Nat} {m:Nat} {x:AV} {ys:List AV} {v:Value} (he:showB s fp x=some (m,ys)) (hv:VR I w (modeOf s ρ) x v) (hm:m≠0) :
  ys.length=m∧∃ us,VRs I w (modeOf s ρ) ys us∧(∀ W,(Builtin.lenOf v).run P W=.ok m W)∧(∀ W:World,W.heap=w.heap→(Builtin.firstCells 1 m v).run P W=.ok us.toArray W):=by
 have hstr:∀ l:List UInt8,x=.str l→ys.length=m∧∃ us,VRs I w (modeOf s ρ) ys us∧(∀ W,(Builtin.lenOf v).run P W=.ok m W)∧(∀ W:World,W.heap=w.heap→(Builtin.firstCells 1 m v).run P W=.ok us.toArray W):=by
  rintro l rfl
  simp only[showB,Option.some.injEq,Prod.mk.injEq] at he
  obtain⟨rfl,rfl⟩:=he
  simp only[VR] at hv
  obtain⟨t,rfl,ht,_⟩:=hv
  have hsz:t.size=l.length:=by rw[← ht,Array.length_toList];rfl
  refine⟨by simp,_,byteAV_VRs l,fun W=>by rw[← hsz];rfl,fun W _=>?_⟩
  have:=Lib.run_firstCells_string (P:=P) W 1 t
  rw[hsz,strCells_eq,ht] at this
  exact this
 cases x
 case str l=>exact hstr l rfl
 all_goals
  simp only[showB] at he
  obtain⟨h1,ad,cap,us,rfl,hvs,hc⟩:=shows_sound h he hv
  obtain⟨b,rfl,hb⟩:=hc hm
  have hl:=hvs.length
  refine⟨by omega,us,hvs,fun W=>rfl,fun W hW=>?_⟩
  exact run_firstCells_some (P:=P) W 1 m b m cap us (by omega) (fun j u hu=>by
   have:=hb j u hu
   unfold World.cell? at this ⊢
   rw[hW]
   exact this)
def tByte (P:Program) (t:TypeId) (e:Nat):Bool :=
 tSlice P t 1&&(match P.underlying t with|some (.slice e')=>decide (e'=e)|_=>false)
def tNotInt (P:Program) (t:TypeId):Bool:=match P.underlying t with|some (.slice _)|some .string=>true|_=>false
theorem runB_nil {t u ty e:TypeId} {i:TypeInfo} {z:Value} (ht:P.underlying t=some (.slice e)) (hu:tNotInt P u=true) (hi:P.info? e=some i) (hz:i.zero=some z) (h1:i.size=1)
  {v:Value} {m:Nat} {us:List Value} (hlen:∀ W,(Builtin.lenOf v).run P W=.ok m W) (hf:∀ W:World,W.heap=w.heap→(Builtin.firstCells 1 m v).run P W=.ok us.toArray W)
  (h0:0<m) (h63:(m:Int)≤9223372036854775807) (h48:m*i.bytes≤281474976710656) :
  (Builtin.append_ #[t,u] ty #[.slice none 0 0,v]).run P w=.ok (.slice (some ⟨w.heap.size,0,none⟩) m (grownCap w m 0 e)) (w.drew.alloc (.cells (us.toArray++Builtin.zeroCells z.cells (grownCap w m 0 e-m)) e)):=by
 have hn:m≠0:=by omega
 have h63':¬ (9223372036854775807<(m:Int)):=by omega
 have h48':¬ (281474976710656<Builtin.nextslicecap m 0*i.bytes):=by rw[nextslicecap_zero h0];omega
 have hfd:=hf w.drew rfl
 unfold tNotInt at hu
 split at hu
 ·rename_i e' hu'
  simp[Builtin.append_,run_underlying ht,run_underlying hu',sizeOf,typeInfo,zeroValue,hi,hz,h1,hlen,hn,h63',h48',Question.forced,run_firstCells_none,hfd,newRow,grownCap]
 ·rename_i hu'
  simp[Builtin.append_,run_underlying ht,run_underlying hu',sizeOf,typeInfo,zeroValue,hi,hz,h1,hlen,hn,h63',h48',Question.forced,run_firstCells_none,hfd,newRow,grownCap]
 ·cases hu
theorem runB_room {t u ty e:TypeId} {i:TypeInfo} (ht:P.underlying t=some (.slice e)) (hu:tNotInt P u=true) (hi:P.info? e=some i) (h1:i.size=1)
  {v:Value} {m:Nat} {us:List Value} (hlen:∀ W,(Builtin.lenOf v).run P W=.ok m W) (hf:∀ W:World,W.heap=w.heap→(Builtin.firstCells 1 m v).run P W=.ok us.toArray W)
  (hul:us.length=m) (h1c:∀ x∈us,x.oneCell'=true) {g n cap te:Nat} {cur:Array Value} (hg:w.heap[g]? = some (.cells cur te (0,0))) (hroom:n+m≤cap) (hfit:n+m≤cur.size) :
  (Builtin.append_ #[t,u] ty #[.slice (some ⟨g,0,none⟩) n cap,v]).run P w=.ok (.slice (some ⟨g,0,none⟩) (n+m) cap) (w.setRow g (cur.toList.take n++us++cur.toList.drop (n+us.length)).toArray):=by
 have hfd:=hf w rfl
 have hst:=run_storeCells_at P g n te us 0 cur w hg (by simpa [hul] using hfit) h1c
 simp only[Nat.add_zero] at hst
 unfold tNotInt at hu
 split at hu
 ·rename_i e' hu'
  simp[Builtin.append_,run_underlying ht,run_underlying hu',sizeOf,typeInfo,hi,h1,hlen,hroom,hfd,Addr_add,hst]
 ·rename_i hu'
  simp[Builtin.append_,run_underlying ht,run_underlying hu',sizeOf,typeInfo,hi,h1,hlen,hroom,hfd,Addr_add,hst]
 ·cases hu
theorem runB_grow {t u ty e:TypeId} {i:TypeInfo} {z:Value} (ht:P.underlying t=some (.slice e)) (hu:tNotInt P u=true) (hi:P.info? e=some i) (hz:i.zero=some z) (h1:i.size=1)
  {v:Value} {m:Nat} {us:List Value} (hlen:∀ W,(Builtin.lenOf v).run P W=.ok m W) (hf:∀ W:World,W.heap=w.heap→(Builtin.firstCells 1 m v).run P W=.ok us.toArray W)
  {b:Addr} {n cap:Nat} {olds:List Value} (hlo:olds.length=n) (holds:∀ j x,olds[j]? = some x→w.cell? (b.add j)=some x)
  (hg:cap<n+m) (h63:((n+m:Nat):Int)≤9223372036854775807) (hfit:Builtin.nextslicecap (n+m) cap*i.bytes≤281474976710656) :
  (Builtin.append_ #[t,u] ty #[.slice (some b) n cap,v]).run P w=.ok (.slice (some ⟨w.heap.size,0,none⟩) (n+m) (grownCap w (n+m) cap e))
    (w.drew.alloc (.cells (olds.toArray++us.toArray++Builtin.zeroCells z.cells (grownCap w (n+m) cap e-(n+m))) e)):=by
 have hn:¬ (n+m≤cap):=by omega
 have h63':¬ (9223372036854775807<((n:Int)+(m:Int))):=by omega
 have h48':¬ (281474976710656<Builtin.nextslicecap (n+m) cap*i.bytes):=by omega
 have hfd:=hf w.drew rfl
 have hold:=run_firstCells_some (P:=P) w.drew 1 n b n cap olds (by omega) (by simpa using holds)
 unfold tNotInt at hu
 split at hu
 ·rename_i e' hu'
  simp[Builtin.append_,run_underlying ht,run_underlying hu',sizeOf,typeInfo,zeroValue,hi,hz,h1,hlen,hn,h63',h48',Question.forced,hold,hfd,newRow,grownCap]
  congr 2
  apply Array.ext'
  simp[List.append_assoc]
 ·rename_i hu'
  simp[Builtin.append_,run_underlying ht,run_underlying hu',sizeOf,typeInfo,zeroValue,hi,hz,h1,hlen,hn,h63',h48',Question.forced,hold,hfd,newRow,grownCap]
  congr 2
  apply Array.ext'
  simp[List.append_assoc]
 ·cases hu
theorem varTag_hT (t:Nat):t=(varTag t/4096-1)/2:=by rw[varTag_div];omega
theorem rowTag_hT (e n:Nat) (arr:Array Value):rowTag e<4096∨(e=(rowTag e/4096-1)/2∧((rowTag e/4096)%2=0→arr.size=n)) :=
 .inr ⟨by rw[rowTag_div];omega,fun h=>by rw[rowTag_div] at h;omega⟩
theorem sim_aps (hd : o.dst = ao.d) (hN : ∀ n, ao.d = some n → n < N) (t u : TypeId) (x y : Operand) (x' y' : AOpd) (id : Nat) (ws : List Nat) (e : Nat) (ho : o.op = .call { callee := .builtin .append, args := #[x, y], argTypes := #[t, u] })
    (hao : ao.op = .aps id ws x' y' e) (hx : mOpd x x' = true) (hy : mOpd y y' = true) (ht : tByte P t e = true) (htu : tNotInt P u = true) : Sim P N o C ao := by
  intro w0 I0 I ρ s a w e' K Q h he hK
  unfold eff at he
  rw [hao] at he
  simp only [] at he
  have hxv := h.opd hx
  have hyv := h.opd hy
  unfold tByte at ht
  simp only [Bool.and_eq_true] at ht
  obtain ⟨ht, hte⟩ := ht
  obtain ⟨e0, i, z, hu, hi, hzv, hsz, hpos, hzs, hby⟩ := tSlice_spec ht
  rw [hu] at hte
  simp only [decide_eq_true_eq] at hte
  subst hte
  have exec : ∀ u' v r w', a.eval x = u' → a.eval y = v → (Builtin.append_ #[t, u] o.type #[u', v]).run P w = .ok r w' → (execOp a.eval o).run P w = .ok (.value r) w' := by
    intro u' v r w' hu hv hr
    simp [execOp, ho, resolve, invoke, builtin, hu, hv, hr]
  split at he
  · rename_i m ys hsh
    split at he
    · -- onto nil
      rename_i hp
      rw [hp] at hxv
      have hxav : a.eval x = .slice none 0 0 := by simpa [VR] using hxv
      split at he
      · rename_i hc
        obtain ⟨hm0, hc1, hc2⟩ := hc
        cases he
        obtain ⟨hyl, us, hyvs, hlen, hf⟩ := showB_sound (P := P) h hsh hyv hm0
        have hul : us.length = m := by rw [← hyvs.length]; exact hyl
        have hr := runB_nil (P := P) (ty := o.type) hu htu hi hzv hsz hlen hf (by omega) (by omega) (by have := Nat.mul_le_mul hc1 hby; omega)
        have hge := grownCap_ge w m 0 e0
        have hcm := grownCap_le_maxLen w m 0 e0 (by unfold maxLen; omega)
        have hal := h.alloc id w.heap.size (rowTag e0) ys (us.toArray ++ Builtin.zeroCells z.cells (grownCap w m 0 e0 - m)) e0 (he := rowTag_ne e0) (w' := w.drew.alloc (.cells (us.toArray ++ Builtin.zeroCells z.cells (grownCap w m 0 e0 - m)) e0))
          (((Below.refl _ w).drew).alloc (Nat.le_refl _) _) (Nat.le_refl _) (heap_alloc_new w.drew _) (by simp [hyl, hul]) (by
            rw [Array.toList_append, List.take_append_of_le_length (by simp [hyl, hul])]
            rw [List.take_of_length_le (by simp [hyl, hul])]
            exact hyvs) (rowTag_hT _ _ _)
        refine wp_of_run (exec _ _ _ _ hxav rfl hr) (hK I (fun b => if b = id then some (w.heap.size, (us.toArray ++ Builtin.zeroCells z.cells (grownCap w m 0 e0 - m)).size) else ρ b) _ _ ?_)
        rw [hd]
        refine hal.putO hN (fun y hy => ?_)
        cases hy
        refine VR_newown (bump_self _ _) (by rw [hlook_hput, if_pos rfl]) (if_pos rfl) hge hcm ?_
        rw [show (Blk.esz ⟨_, false, rowTag e0⟩) % 4096 = 1 from rowTag_mod e0]
        simp only [Array.size_append, zeros_size, hzs, List.size_toArray, hul]
        omega
      · cases he
    · -- onto a row of the call's own
      rename_i b g p n hp
      rw [hp] at hxv
      by_cases hws : ¬ (ws.contains b = true)
      · rw [if_neg hws] at he; cases he
      rw [if_pos (Classical.not_not.1 hws)] at he
      split at he
      · rename_i k hk
        split at he
        · rename_i hc
          obtain ⟨hm0, rfl, hn0, hc2, hc3, hc4, hc5, hc6⟩ := hc
          cases he
          obtain ⟨hyl, us, hyvs, hlen', hf⟩ := showB_sound (P := P) h hsh hyv hm0
          have hul : us.length = m := by rw [← hyvs.length]; exact hyl
          obtain ⟨hg, hl, hA, hok⟩ := h.blk hk
          simp only [VR, modeOf] at hxv
          have hx2 := hxv.2.2 _ hA
          simp only [] at hx2
          have hone := VRs_oneCell hyvs hc6
          have hdr := h.drop (t' := s.t) (h' := hdel s.h b) (fun _ => .inr rfl) (fun j => hlook_drop1 s.h b j)
          have hMd : Mode.le (modeOf s ρ) (modeOf ⟨s.t, hdel s.h b, s.g⟩ ρ) := by
            refine ⟨fun _ => Nat.le_refl _, fun j g L hg hA => ?_⟩
            simp only [aliveA] at hA ⊢
            rcases hlook_drop1 s.h b j with e | e
            · rw [e] at hA; simp at hA
            · rw [e] at hA; exact hA
          cases hρ : ρ b with
          | none =>
            rw [hρ] at hok
            have hkcs : k.cs = [] := hok
            rw [hkcs] at hc2
            simp at hc2
            omega
          | some rs =>
            obtain ⟨r, σ⟩ := rs
            rw [hρ] at hx2 hok
            obtain ⟨adx, cap, hxav, hncap, hcapm, h4⟩ := hx2
            obtain ⟨hr0, _, hnf, hlen, arr, ty, hheap, hasz, hvv⟩ := hok
            have hσ : adx = some ⟨r, 0, none⟩ ∧ cap * (k.esz % 4096) = σ := by
              rcases h4 with ⟨_, h4⟩ | ⟨h4, h5⟩
              · exact absurd rfl h4
              · exact ⟨h4, h5 trivial⟩
            obtain ⟨rfl, hσ⟩ := hσ
            rw [hc4, rowTag_mod, Nat.mul_one] at hσ
            have hcl := hvv.length
            have hnew : VRs I w (modeOf s ρ) (k.cs.take n ++ ys) ((arr.toList.take n) ++ us) := by
              have h1 := (hvv.take n).append hyvs
              rw [List.take_take, Nat.min_eq_left hc2] at h1
              exact h1
            have hnl : (k.cs.take n ++ ys).length = n + m := by
              simp [hyl]; omega
            by_cases hroom : n + m ≤ cap
            · -- there is room
              have hr := runB_room (P := P) (ty := o.type) hu htu hi hsz hlen' hf hul hone hheap hroom (by omega)
              have hset := h.set hl hc3 (blkAt_live ‹_›).2 hρ (k.cs.take n ++ ys) (arr.toList.take n ++ us ++ arr.toList.drop (n + us.length)).toArray ty (w' := w.setRow r (arr.toList.take n ++ us ++ arr.toList.drop (n + us.length)).toArray) rfl rfl rfl (by simp [World.setRow]) (fun j hj => setRow_other _ _ _ _ hj) (setRow_heap w r arr _ ty (0, 0) hheap)
                (by simp [hul, hasz]; omega) (by rw [hnl]; omega) (by
                  have e : ((arr.toList.take n ++ us ++ arr.toList.drop (n + us.length)).toArray.toList).take (k.cs.take n ++ ys).length = arr.toList.take n ++ us := by
                    have hl2 : (k.cs.take n ++ ys).length = (arr.toList.take n ++ us).length := hnew.length
                    rw [hl2]
                    exact List.take_left
                  rw [e]
                  exact hnew) hheap (.inr (.inl (by rw [hc4, rowTag_div]; omega)))
              have hren := hset.rename (b := b) (k := { k with cs := k.cs.take n ++ ys }) (by rw [hlook_hput, if_pos rfl]) id (k.cs.take n ++ ys) (rowTag e0) rfl hc3 (blkAt_live hk).2 (rowTag_ne e0) (.inr hc4.symm)
              rw [show (⟨s.t, hput s.h b { k with cs := k.cs.take n ++ ys }, s.g⟩ : St).h = hput s.h b { k with cs := k.cs.take n ++ ys } from rfl, hdel_hput] at hren
              refine wp_of_run (exec _ _ _ _ hxav rfl hr) (hK I (fun j => if j = id then ρ b else ρ j) _ _ ?_)
              rw [hd]
              unfold app appH appG
              refine hren.putO hN (fun y hy => ?_)
              cases hy
              exact VR_newown (bump_self _ _) (by rw [hlook_hput, if_pos rfl]) (by rw [if_pos rfl, hρ]) hroom hcapm (by rw [show (Blk.esz ⟨_, false, rowTag e0⟩) % 4096 = 1 from rowTag_mod e0, Nat.mul_one]; exact hσ)
            · -- it moves
              have hr := runB_grow (P := P) (ty := o.type) hu htu hi hzv hsz hlen' hf (b := ⟨r, 0, none⟩) (n := n) (cap := cap) (olds := arr.toList.take n) (by simp; omega) (fun j u hj => by
                  rw [Addr_add]
                  have := rowAt_of_heap hheap n 0 n j u (by simpa [List.take_take] using hj)
                  simpa using this) (by omega) (by omega) (growslice_fits (by omega) (by have := Nat.mul_le_mul hc5 hby; omega))
              have hge := grownCap_ge w (n + m) cap e0
              have hcm := grownCap_le_maxLen w (n + m) cap e0 (by unfold maxLen; omega)
              have hl3 : (k.cs.take n ++ ys).length = (arr.toList.take n ++ us).length := hnew.length
              have hal := hdr.alloc id w.heap.size (rowTag e0) (k.cs.take n ++ ys) ((arr.toList.take n).toArray ++ us.toArray ++ Builtin.zeroCells z.cells (grownCap w (n + m) cap e0 - (n + m))) e0 (he := rowTag_ne e0)
                (w' := w.drew.alloc (.cells ((arr.toList.take n).toArray ++ us.toArray ++ Builtin.zeroCells z.cells (grownCap w (n + m) cap e0 - (n + m))) e0))
                (((Below.refl _ w).drew).alloc (Nat.le_refl _) _) (Nat.le_refl _) (heap_alloc_new w.drew _) (by rw [hl3]; simp) (by
                  rw [hl3]
                  have : ((arr.toList.take n).toArray ++ us.toArray ++ Builtin.zeroCells z.cells (grownCap w (n + m) cap e0 - (n + m))).toList = (arr.toList.take n ++ us) ++ (Builtin.zeroCells z.cells (grownCap w (n + m) cap e0 - (n + m))).toList := by simp
                  rw [this, List.take_left]
                  exact VRs.mono (fun _ h => h) (fun _ _ _ => rfl) _ _ hMd hnew) (rowTag_hT _ _ _)
              refine wp_of_run (exec _ _ _ _ hxav rfl hr) (hK I (fun j => if j = id then some (w.heap.size, ((arr.toList.take n).toArray ++ us.toArray ++ Builtin.zeroCells z.cells (grownCap w (n + m) cap e0 - (n + m))).size) else ρ j) _ _ ?_)
              rw [hd]
              unfold app appH appG
              refine hal.putO hN (fun y hy => ?_)
              cases hy
              refine VR_newown (bump_self _ _) (by rw [hlook_hput, if_pos rfl]) (if_pos rfl) hge hcm ?_
              have h5 : (arr.toList.take n).length = n := by simp; omega
              rw [show (Blk.esz ⟨_, false, rowTag e0⟩) % 4096 = 1 from rowTag_mod e0]
              simp only [Array.size_append, zeros_size, hzs, List.size_toArray, hul, h5]
              omega
        · cases he
      · cases he
    · cases he
  · cases he
theorem sim_alcT (hd:o.dst=ao.d) (hN:∀ n,ao.d=some n→n<N) (t:TypeId) (z:List AV) (ho:o.op=.alloc t) (hao:ao.op=.alcT t z) (hz:tZero P t z=true):Sim P N o C ao:=by
 intro w0 I0 I ρ s a w e K Q h he hK
 unfold eff at he
 rw[hao] at he
 simp only[] at he
 split at he
 ·rename_i d hdd
  cases he
  obtain⟨v,hrun,hvs⟩:=run_zero (P:=P) hz
  have hl:=(hvs I w (modeOf s ρ)).length
  refine close_boxT (o:=o) (ao:=ao) hd hN (vs:=v.cells) (ty:=t) h hK ?_ (hvs I w _) (varTag_ne t) (.inr ⟨varTag_hT t,fun _=>by rw[hl,Array.length_toList]⟩)
  simp[execOp,ho,Instr.alloc,hrun,newVar,newRow]
 ·cases he
def isNilC:Operand→Bool
 | .const .nilIface=>true
 | _=>false
def isIfc (P:Program) (t:TypeId):Bool:=match P.underlying t with|some (.interface _)=>true|_=>false
def isStr (P:Program) (t:TypeId):Bool:=match P.underlying t with|some .string=>true|_=>false
def mStr (P:Program) (o:Op) (k:Nat) (xs:List AOpd):Bool :=
 match o with
 | .binOp op t x y _=>match xs with
  | [x',y']=>mOpd x x'&&(mOpd y y'&&((k==0&&decide (op=.add))||((k==1&&decide (op=.eql))||(k==2&&decide (op=.neq)))))
  | [x']=>mOpd x x'&&(isNilC y&&(isIfc P t&&((k==5&&decide (op=.eql))||(k==6&&decide (op=.neq)))))
  | _=>false
 | .call { callee:=.builtin .len,args,argTypes }=>match args.toList,argTypes.toList,xs with
  | [x],[t],[x']=>k==3&&(mOpd x x'&&isStr P t)
  | _,_,_=>false
 | .index t x y=>match xs with
  | [x',y']=>k==4&&(mOpd x x'&&(mOpd y y'&&isStr P t))
  | _=>false
 | _=>false
theorem VR_str {l:List UInt8} {v:Value} (h:VR I w M (.str l) v):∃ t:ByteArray,v=.string t∧t.data.toList=l∧t.size=l.length∧t.size≤maxLen:=by
 simp only[VR] at h
 obtain⟨t,h1,h2,h3⟩:=h
 exact⟨t,h1,h2,by rw[← h2,Array.length_toList];rfl,h3⟩
theorem strEv0 {u u' z:AV} (h:strEv 0 [u,u']=some z):∃ l l',u=.str l∧u'=.str l'∧l.length+l'.length≤maxN∧z=.str (l++l'):=by
 cases u<;>try (simp[strEv] at h;done)
 cases u'<;>try (simp[strEv] at h;done)
 simp[strEv] at h
 exact⟨_,_,rfl,rfl,h.1,h.2.symm⟩
theorem strEv1 {u u' z:AV} (h:strEv 1 [u,u']=some z):∃ l l',u=.str l∧u'=.str l'∧z=.bool (l==l'):=by
 cases u<;>try (simp[strEv] at h;done)
 cases u'<;>try (simp[strEv] at h;done)
 simp only[strEv,Option.some.injEq] at h
 exact⟨_,_,rfl,rfl,h.symm⟩
theorem strEv2 {u u' z:AV} (h:strEv 2 [u,u']=some z):∃ l l',u=.str l∧u'=.str l'∧z=.bool (!(l==l')):=by
 cases u<;>try (simp[strEv] at h;done)
 cases u'<;>try (simp[strEv] at h;done)
 simp only[strEv,Option.some.injEq] at h
 exact⟨_,_,rfl,rfl,h.symm⟩
theorem strEv3 {u z:AV} (h:strEv 3 [u]=some z):∃ l,u=.str l∧z=.int .i64 l.length:=by
 cases u<;>try (simp[strEv] at h;done)
 simp[strEv] at h
 exact⟨_,rfl,h.2.symm⟩
theorem strEv4 {u u' z:AV} (h:strEv 4 [u,u']=some z):∃ l kk n c,u=.str l∧u'=.int kk n∧0≤n∧l[n.toNat]? = some c∧z=.int .u8 c.toNat:=by
 cases u<;>try (simp[strEv] at h;done)
 cases u'<;>try (simp[strEv] at h;done)
 simp only[strEv] at h
 split at h
 ·rename_i hn
  split at h
  ·rename_i c hc
   cases h
   exact⟨_,_,_,c,rfl,rfl,hn,hc,rfl⟩
  ·cases h
 ·cases h
theorem strEv5 {u z:AV} (h:strEv 5 [u]=some z):u=.nilv true∧z=.bool true:=by
 cases u<;>try (simp[strEv] at h;done)
 rename_i i
 cases i<;>simp[strEv] at h
 exact⟨rfl,h.symm⟩
theorem strEv6 {u z:AV} (h:strEv 6 [u]=some z):u=.nilv true∧z=.bool false:=by
 cases u<;>try (simp[strEv] at h;done)
 rename_i i
 cases i<;>simp[strEv] at h
 exact⟨rfl,h.symm⟩
theorem run_equal_nil {t:TypeId} (ht:isIfc P t=true) (w:World):(Op.equal t .nilIface .nilIface).run P w=.ok true w:=by
 unfold isIfc at ht
 split at ht
 ·rename_i ms hu
  have key:∀ d,(Op.equalIn (d+1) t .nilIface .nilIface).run P w=.ok true w:=by
   intro d
   rw[Op.equalIn]
   simp only[Sem.run_bind,run_underlying hu,Result.andThen_ok]
   rfl
  exact key 9999
 ·cases ht
theorem isNilC_eq {y:Operand} (h:isNilC y=true):y=.const .nilIface:=by
 unfold isNilC at h
 split at h
 ·rfl
 ·cases h
theorem sim_str (hd:o.dst=ao.d) (hN:∀ n,ao.d=some n→n<N) (k:Nat) (xs:List AOpd) (hao:ao.op=.str k xs) (hm:mStr P o.op k xs=true):Sim P N o C ao:=by
 intro w0 I0 I ρ s a w e K Q h he hK
 unfold eff at he
 rw[hao] at he
 simp only[] at he
 obtain⟨z,hz,rfl⟩:=valO_ok he
 unfold mStr at hm
 split at hm
 ·rename_i op t x y t' ho
  split at hm
  ·rename_i x' y'
   simp only[Bool.and_eq_true,Bool.or_eq_true,beq_iff_eq,decide_eq_true_eq] at hm
   obtain⟨hx,hy,hk⟩:=hm
   have hxv:=h.opd hx
   have hyv:=h.opd hy
   simp only[List.map_cons,List.map_nil] at hz
   have hg:∀ op (t1 t2:ByteArray) w,(eqGuard op t x y (.string t1) (.string t2)).run P w=.ok () w:=fun op t1 t2 w=>eqGuard_flat (by trivial) w
   rcases hk with⟨rfl,rfl⟩|⟨rfl,rfl⟩|⟨rfl,rfl⟩
   ·obtain⟨l,l',e1,e2,hle,rfl⟩:=strEv0 hz
    rw[e1] at hxv
    rw[e2] at hyv
    obtain⟨t1,h1,h3,h5,_⟩:=VR_str hxv
    obtain⟨t2,h2,h4,h6,_⟩:=VR_str hyv
    unfold maxN at hle
    refine close_val h hd hN hK (v:=.string (t1++t2)) ?_ ?_
    ·have hlim:¬ ((t1.size+t2.size:Nat):Int)>IntKind.i64.max:=by
      rw[h5,h6]
      rw[show IntKind.i64.max=9223372036854775807 from rfl]
      omega
     simp only[execOp,ho,h1,h2,hg,binOp,Op.stringOp,Sem.run_bind,Result.andThen_ok]
     rw[if_neg hlim]
     rfl
    ·simp only[VR]
     refine⟨_,rfl,by simp[h3,h4], ?_⟩
     rw[ByteArray.size_append,h5,h6]
     unfold maxLen
     omega
   ·obtain⟨l,l',e1,e2,rfl⟩:=strEv1 hz
    rw[e1] at hxv
    rw[e2] at hyv
    obtain⟨t1,h1,h3,h5,_⟩:=VR_str hxv
    obtain⟨t2,h2,h4,h6,_⟩:=VR_str hyv
    refine close_val h hd hN hK (v:=.bool (l==l')) ?_ (by simp[VR])
    simp[execOp,ho,h1,h2,hg,binOp,Op.stringOp,Lib.toList_data,h3,h4]
   ·obtain⟨l,l',e1,e2,rfl⟩:=strEv2 hz
    rw[e1] at hxv
    rw[e2] at hyv
    obtain⟨t1,h1,h3,h5,_⟩:=VR_str hxv
    obtain⟨t2,h2,h4,h6,_⟩:=VR_str hyv
    refine close_val h hd hN hK (v:=.bool (!(l==l'))) ?_ (by simp[VR])
    simp[execOp,ho,h1,h2,hg,binOp,Op.stringOp,Lib.toList_data,h3,h4]
  ·rename_i x'
   simp only[Bool.and_eq_true,Bool.or_eq_true,beq_iff_eq,decide_eq_true_eq] at hm
   obtain⟨hx,hy,ht,hk⟩:=hm
   have hxv:=h.opd hx
   have hy':=isNilC_eq hy
   subst hy'
   simp only[List.map_cons,List.map_nil] at hz
   have hce:a.eval (.const .nilIface)=.nilIface:=rfl
   have hg:∀ op w,(eqGuard op t x (.const .nilIface) .nilIface .nilIface).run P w=.ok () w:=fun op w=>by
    cases op<;>simp[eqGuard]
   rcases hk with⟨rfl,rfl⟩|⟨rfl,rfl⟩
   ·obtain⟨e1,rfl⟩:=strEv5 hz
    rw[e1] at hxv
    have hxe:a.eval x=.nilIface:=by simpa [VR] using hxv
    refine close_val h hd hN hK (v:=.bool true) ?_ (by simp[VR])
    simp only[execOp,ho,hxe,hce,hg,binOp,Sem.run_bind,Result.andThen_ok,run_equal_nil ht]
    rfl
   ·obtain⟨e1,rfl⟩:=strEv6 hz
    rw[e1] at hxv
    have hxe:a.eval x=.nilIface:=by simpa [VR] using hxv
    refine close_val h hd hN hK (v:=.bool false) ?_ (by simp[VR])
    simp only[execOp,ho,hxe,hce,hg,binOp,Sem.run_bind,Result.andThen_ok,run_equal_nil ht]
    rfl
  ·cases hm
 ·rename_i args ts ho
  split at hm
  ·rename_i x t x' ha ht
   simp only[Bool.and_eq_true,beq_iff_eq] at hm
   obtain⟨rfl,hx,hs⟩:=hm
   have e1:args=#[x]:=by apply Array.ext';simpa using ha
   have e2:ts=#[t]:=by apply Array.ext';simpa using ht
   subst e1;subst e2
   have hxv:=h.opd hx
   simp only[List.map_cons,List.map_nil] at hz
   obtain⟨l,e1,rfl⟩:=strEv3 hz
   rw[e1] at hxv
   obtain⟨t1,h1,h3,h5,_⟩:=VR_str hxv
   unfold isStr at hs
   split at hs
   ·rename_i hu
    refine close_val h hd hN hK (v:=.int .i64 l.length) ?_ (by simp[VR])
    simp[execOp,ho,resolve,invoke,builtin,Builtin.len_,run_underlying hu,h1,goInt,h5]
   ·cases hs
  ·cases hm
 ·rename_i t x y ho
  split at hm
  ·rename_i x' y'
   simp only[Bool.and_eq_true,beq_iff_eq] at hm
   obtain⟨rfl,hx,hy,hs⟩:=hm
   have hxv:=h.opd hx
   have hyv:=h.opd hy
   simp only[List.map_cons,List.map_nil] at hz
   obtain⟨l,kk,n,c,e1,e2,hn,hc,rfl⟩:=strEv4 hz
   rw[e1] at hxv
   rw[e2] at hyv
   have hy2:=VR_int hyv
   obtain⟨t1,h1,h3,h5,_⟩:=VR_str hxv
   unfold isStr at hs
   split at hs
   ·rename_i hu
    refine close_val h hd hN hK (v:=.int .u8 c.toNat) ?_ (by simp[VR])
    have hb:t1[n.toNat]? = some c:=by
     subst h3
     rw[Array.getElem?_toList] at hc
     obtain⟨hlt,hce⟩:=Array.getElem?_eq_some_iff.1 hc
     rw[getElem?_pos t1 n.toNat hlt]
     exact congrArg some hce
    simp[execOp,ho,Instr.index,run_underlying hu,h1,hy2,asIntOf,hn,hb]
   ·cases hs
  ·cases hm
 ·cases hm
theorem sim_ssl (hd:o.dst=ao.d) (hN:∀ n,ao.d=some n→n<N) (t:TypeId) (x:Operand) (x':AOpd) (lo hi:Option AOpd) (lo' hi':Option Operand) (ho:o.op=.slice t x lo' hi' none) (hao:ao.op=.ssl x' lo hi) (hx:mOpd x x'=true)
  (hlo:mOpdO lo' lo=true) (hhi:mOpdO hi' hi=true) (ht:isStr P t=true):Sim P N o C ao:=by
 intro w0 I0 I ρ s a w e K Q h he hK
 unfold eff at he
 rw[hao] at he
 simp only[] at he
 have hxv:=h.opd hx
 unfold isStr at ht
 split at ht
 ·rename_i hu
  split at he
  ·rename_i l0 hp
   rw[hp] at hxv
   obtain⟨t1,h1,h3,h5,h6⟩:=VR_str hxv
   split at he
   ·rename_i l hh hb
    have:=val_ok he;subst this
    obtain⟨hb1,hb2,hr⟩:=bounds_run (P:=P) (cap:=l0.length) (lo':=lo') (hi':=hi') h hb (Nat.le_refl _) hlo hhi
    refine close_val h hd hN hK (v:=.string (t1.extract l hh)) ?_ ?_
    ·rw[← h5] at hr
     simp[execOp,ho,Instr.sliceAt,run_underlying hu,Instr.slice,h1,hr]
    ·simp only[VR]
     refine⟨_,rfl, ?_, ?_⟩
     ·rw[ByteArray.data_extract,Array.toList_extract,h3,List.drop_take]
     ·rw[ByteArray.size_extract]
      omega
   ·cases he
  ·cases he
 ·cases ht
theorem push_all:∀(l:List UInt8) (b:ByteArray),((l.map fun c=>(c.toNat:Int)).foldl (fun r n=>r.push (UInt8.ofNat n.toNat)) b).data.toList=b.data.toList++l
 | [],b=>by simp
 | c::l,b=>by
  simp only[List.map_cons,List.foldl_cons]
  rw[push_all l]
  have:UInt8.ofNat ((c.toNat:Int)).toNat=c:=by simp
  rw[this]
  simp[ByteArray.push]
def isBytes (P:Program) (t:TypeId):Bool :=
 match P.underlying t with
 | some (.slice e)=>(match P.underlying e with|some (.int .u8)=>true|_=>false)
 | _=>false
theorem sim_b2s (hd:o.dst=ao.d) (hN:∀ n,ao.d=some n→n<N) (t t':TypeId) (x:Operand) (x':AOpd) (ho:o.op=.convert t t' x) (hao:ao.op=.b2s x') (hx:mOpd x x'=true) (ht:isBytes P t=true) (ht':isStr P t'=true):Sim P N o C ao:=by
 intro w0 I0 I ρ s a w e K Q h he hK
 unfold eff at he
 rw[hao] at he
 simp only[] at he
 have hxv:=h.opd hx
 unfold isStr at ht'
 split at ht'
 ·rename_i hu'
  unfold isBytes at ht
  split at ht
  ·rename_i e0 hu
   split at ht
   ·rename_i hu0
    split at he
    ·rename_i n ys hsh
     split at he
     ·rename_i l hl
      split at he
      ·rename_i hn
       have:=val_ok he;subst this
       obtain⟨hyl,ad,cap,us,hav,hvs,hc⟩:=shows_sound h hsh hxv
       obtain⟨b0,rfl,hcells⟩:=hc hn.1
       have hus:=bytesOf_VRs hl hvs
       have hln:=bytesOf_len hl
       have hload:(loadCells b0 n).run P w=.ok ((l.map fun c=>(c.toNat:Int)).map (Value.int .u8)).toArray w:=by
        have:=run_loadCells_list w b0 us (P:=P) (fun j v hv=>hcells j v hv)
        have e:us.length=n:=by rw[hus];simp;omega
        rw[e] at this
        rw[this,hus]
        simp[Function.comp_def]
       have hr:=run_bytesToString (P:=P) w b0 n cap _ hload
       refine close_val h hd hN hK (v:=.string ((l.map fun c=>(c.toNat:Int)).foldl (fun r n=>r.push (UInt8.ofNat n.toNat)) ByteArray.empty)) ?_ ?_
       ·simp only[execOp,ho,convert,run_underlying hu,run_underlying hu',run_underlying hu0,hav,Sem.run_bind,Result.andThen_ok,hr,Sem.run_pure]
       ·simp only[VR]
        refine⟨_,rfl,by rw[push_all];rfl, ?_⟩
        have e:=push_all l ByteArray.empty
        have e2:((l.map fun c=>(c.toNat:Int)).foldl (fun r n=>r.push (UInt8.ofNat n.toNat)) ByteArray.empty).size=l.length:=by
         have:=congrArg List.length e
         rw[Array.length_toList] at this
         exact this.trans (by simp)
        rw[e2]
        unfold maxLen
        omega
      ·cases he
     ·cases he
    ·cases he
   ·cases ht
  ·cases ht
 ·cases ht'
theorem sim_sla (hd:o.dst=ao.d) (hN:∀ n,ao.d=some n→n<N) (t:TypeId) (x:Operand) (x':AOpd) (lo hi:Option AOpd) (lo' hi':Option Operand) (sz len:Nat) (ho:o.op=.slice t x lo' hi' none) (hao:ao.op=.sla x' lo hi sz len) (hx:mOpd x x'=true)
  (hlo:mOpdO lo' lo=true) (hhi:mOpdO hi' hi=true) (e0:TypeId) (hu:P.underlying t=some (.array len e0)) (i:TypeInfo) (hi0:P.info? e0=some i) (hsz:i.size=sz):Sim P N o C ao:=by
 intro w0 I0 I ρ s a w e K Q h he hK
 unfold eff at he
 rw[hao] at he
 simp only[] at he
 have hxv:=h.opd hx
 split at he
 ·rename_i b g p hp
  rw[hp] at hxv
  split at he
  ·rename_i k l hh hk hb
   split at he
   ·rename_i hc
    have:=val_ok he;subst this
    obtain⟨hc1,hc2,hc3,hc4⟩:=hc
    obtain⟨hb1,hb2,hr⟩:=bounds_run (P:=P) (cap:=len) (lo':=lo') (hi':=hi') h hb (Nat.le_refl _) hlo hhi
    obtain⟨r,σ,hρ,hav⟩:=h.ptr hk hxv
    obtain⟨hg,hl,hA,hok⟩:=h.blk hk
    rw[hρ] at hok
    obtain⟨_,⟨_,hT⟩,_,hlen,arr,ty,hheap,hasz,hvv⟩:=hok
    refine close_val h hd hN hK (v:=.slice (some (if len=l then (⟨r,p,none⟩:Addr) else (⟨r,p,none⟩:Addr).add (l*sz))) (hh-l) (len-l)) ?_ ?_
    ·simp[execOp,ho,Instr.sliceAt,run_underlying hu,hav,Instr.sureAddr,hr,run_sizeOf' hi0,hsz]
    ·simp only[VR,modeOf]
     refine⟨⟨_,_,_,rfl⟩,by omega,fun L hL=>?_⟩
     rw[hA] at hL
     cases hL
     simp only[hρ]
     refine⟨_,len-l,rfl,by omega,by unfold maxLen;omega, ?_⟩
     by_cases hll:len=l
     ·rw[if_pos hll]
      rcases hc4 with hc4|⟨c1,c2,c3,c4⟩
      ·exact .inl ⟨by omega,hc4⟩
      ·by_cases ho0:p+l*sz=0
       ·have hl0:l=0:=by
         rcases Nat.mul_eq_zero.1 (by omega:l*sz=0) with e|e
         ·exact e
         ·omega
        have hp0:p=0:=by omega
        subst hl0;subst hp0
        refine .inr ⟨by simp,fun _=>?_⟩
        subst hll
        rcases hT with hT|⟨arr2,e1,e2⟩
        ·omega
        ·rw[hheap] at e1
         cases e1
         have:=e2 c3
         rw[c1]
         simp
         omega
       ·exact .inl ⟨by omega,ho0⟩
     ·rw[if_neg hll]
      refine .inr ⟨by rw[Addr_add],fun ho0=>?_⟩
      rcases hc4 with hc4|⟨c1,c2,c3,c4⟩
      ·exact absurd ho0 hc4
      ·have hl0:l=0:=by
        rcases Nat.mul_eq_zero.1 (by omega:l*sz=0) with e|e
        ·exact e
        ·omega
       rcases hT with hT|⟨arr2,e1,e2⟩
       ·omega
       ·rw[hheap] at e1
        cases e1
        have:=e2 c3
        rw[c1,hl0]
        simp only[Nat.sub_zero]
        omega
   ·cases he
  ·cases he
 ·cases he
theorem setCell0 {r t:Nat} {p c:Value} (hh:w.heap[r]? = some (.cells #[p,c] t (0,0))) (v:Value):(w.setCell ⟨r,0,none⟩ v).heap[r]? = some (.cells #[v,c] t (0,0)):=by
 simp[World.setCell,Array.getElem?_modify,hh]
theorem setCell0_other {r j:Nat} (v:Value) (hj:j≠r):(w.setCell ⟨r,0,none⟩ v).heap[j]? = w.heap[j]? := by
 simp[World.setCell,Array.getElem?_modify,Ne.symm hj]
theorem two_cells {arr:Array Value} {x y:AV} {k:List AV} (h:VRs I w M [x,y] (arr.toList.take 2)) (hs:arr.size=2):∃ v u,arr=#[v,u]∧VR I w M x v∧VR I w M y u:=by
 obtain⟨l⟩:=arr
 match l,hs with
 | [v,u],_ =>
  simp only[List.take_succ_cons,List.take_zero,VRs] at h
  exact⟨v,u,rfl,h.1,h.2.1⟩
theorem sim_cck (hC:∀ f,Contract P f (C f)) (hd:o.dst=ao.d) (hN:∀ n,ao.d=some n→n<N) (f:Nat) (hf:f<250000) (x:Operand) (x':AOpd) (ts:Array TypeId) (ho:o.op=.call { callee:=.value (.func f),args:=#[x],argTypes:=ts }) (hao:ao.op=.cck f x') (hx:mOpd x x'=true):Sim P N o C ao:=by
 intro w0 I0 I ρ s a w e K Q h he hK
 unfold eff at he
 rw[hao] at he
 simp only[] at he
 have hxv:=h.opd hx
 split at he
 ·rename_i b g t hp hCt
  rw[hp] at hxv
  split at he
  ·rename_i k hk
   split at he
   ·rename_i hc
    obtain⟨hc1,hc2⟩:=hc
    obtain⟨r,σ,hρ,hav⟩:=h.ptr hk hxv
    obtain⟨hg,hl,hA,hok⟩:=h.blk hk
    rw[hρ] at hok
    obtain⟨_,⟨_,hT⟩,_,hlen,arr,ty,hheap,hasz,hvv⟩:=hok
    obtain⟨arr2,e1,e2⟩:=hT.var hc1
    rw[hheap] at e1
    cases e1
    have hck:=(hC (sBase+f)).cck hf hCt
    obtain⟨c1,c2,c3⟩:=hck w r
    have hrun:(execOp a.eval o).run P w=(callFunc f #[.pointer (some ⟨r,0,none⟩)]).run P w:=by
     have hfe:a.eval (.func f)=.func (.func f) #[] #[]:=rfl
     simp[execOp,ho,resolve,hfe,Deferred.ofValue,invoke,hav]
    split at he
    ·rename_i c hcs
     cases he
     rw[hcs] at hvv e2
     obtain⟨v0,u,rfl,h0,h1⟩:=two_cells (k:=[]) hvv e2
     have hv0:v0=.pointer none:=by simpa [VR] using h0
     subst hv0
     have hcall:=c2 u hheap
     have hset:=h.set hl hc2 (blkAt_live hk).2 hρ [.ptr b g 0,c] #[.pointer (some ⟨r,0,none⟩),u] t (w':=w.setCell ⟨r,0,none⟩ (.pointer (some ⟨r,0,none⟩))) rfl rfl rfl (by simp[World.setCell]) (fun j hj=>setCell0_other _ hj) (setCell0 hheap _)
      hasz (by simp at hasz ⊢;omega) (by
       simp only[List.length_cons,List.length_nil,List.take_succ_cons,List.take_zero,VRs]
       exact⟨by
        have:=ptr_moved (q:=0) (p:=0) h hk hρ
        simpa using this,h1,trivial⟩) hheap (.inr (.inr (by rw[hcs];rfl)))
     unfold Oper.wp
     rw[hrun,c1 w]
     simp only[Oper.upon]
     refine Calls.mono hcall ?_
     rintro e w' ⟨rfl,rfl⟩
     refine hK I ρ _ _ ?_
     rw[hd]
     unfold app appH appG
     refine hset.putO hN (fun y hy=>?_)
     cases hy
     simp only[VR]
     exact⟨[],rfl,by simp[VRs]⟩
    ·rename_i b' g' c hcs
     split at he
     ·rename_i hbg
      obtain⟨rfl,rfl⟩:=hbg
      cases he
      rw[hcs] at hvv e2
      obtain⟨v0,u,rfl,h0,h1⟩:=two_cells (k:=[]) hvv e2
      obtain⟨r2,σ2,hρ2,hv0⟩:=h.ptr hk h0
      rw[hρ] at hρ2
      cases hρ2
      subst hv0
      have hcall:=c3 (by simp[World.cell?,hheap])
      unfold Oper.wp
      rw[hrun,c1 w]
      simp only[Oper.upon]
      refine Calls.mono hcall ?_
      rintro e w' ⟨rfl,rfl⟩
      refine hK I ρ _ _ ?_
      rw[hd]
      unfold app appH appG
      refine h.putO hN (fun y hy=>?_)
      cases hy
      simp only[VR]
      exact⟨[],rfl,by simp[VRs]⟩
     ·cases he
    ·cases he
   ·cases he
  ·cases he
 ·cases he
theorem sim_bst (hC:∀ f,Contract P f (C f)) (hd:o.dst=ao.d) (hN:∀ n,ao.d=some n→n<N) (f:Nat) (hf:f<250000) (x:Operand) (x':AOpd) (ts:Array TypeId) (ho:o.op=.call { callee:=.value (.func f),args:=#[x],argTypes:=ts }) (hao:ao.op=.bst f x') (hx:mOpd x x'=true):Sim P N o C ao:=by
 intro w0 I0 I ρ s a w e K Q h he hK
 unfold eff at he
 rw[hao] at he
 simp only[] at he
 have hxv:=h.opd hx
 split at he
 ·rename_i b g t u hp hCt
  rw[hp] at hxv
  split at he
  ·rename_i k hk
   split at he
   ·rename_i c0 d g' n hcs
    split at he
    ·rename_i q hq
     split at he
     ·rename_i hc
      obtain⟨hc1,hc2,hc3,hc4,hc5,hc6⟩:=hc
      split at he
      ·rename_i l hbytes
       cases he
       obtain⟨r,σ,hρ,hav⟩:=h.ptr hk hxv
       obtain⟨hg,hl,hA,hok⟩:=h.blk hk
       rw[hρ] at hok
       obtain⟨_,⟨_,hT⟩,_,hlen,arr,ty,hheap,hasz,hvv⟩:=hok
       obtain⟨arr2,e1,e2⟩:=hT.var hc1
       rw[hheap] at e1
       cases e1
       rw[hcs] at hvv e2
       obtain⟨v0,v1,rfl,h0,h1⟩:=two_cells (k:=[]) hvv e2
       obtain⟨hgq,hlq,hAq,hokq⟩:=h.blk hq
       simp only[VR,modeOf] at h1
       have h2:=h1.2.2 _ hAq
       simp only[] at h2
       cases hρq:ρ d with
       | none =>
        rw[hρq] at h2
        exact absurd h2.2.1 hc4
       | some rs =>
        obtain⟨rq,σq⟩:=rs
        rw[hρq] at h2 hokq
        obtain⟨ad,cap,hv1,hncap,hcapm,h4⟩:=h2
        obtain⟨hrm,⟨_,hTq⟩,hnf,hlenq,cur,tyq,hheapq,hcsz,hvvq⟩:=hokq
        obtain⟨cur2,e3⟩:=hTq.row hc2
        rw[hheapq] at e3
        cases e3
        have hσ:ad=some ⟨rq,0,none⟩∧cap*(q.esz % 4096)=σq:=by
         rcases h4 with⟨_,h4⟩|⟨h4,h5⟩
         ·exact absurd rfl h4
         ·exact⟨h4,h5 trivial⟩
        obtain⟨rfl,hσ⟩:=hσ
        rw[hc2,rowTag_mod,Nat.mul_one] at hσ
        subst hv1
        have hne:rq≠r:=fun er=>hc5 (h.inj d b q k rq σq σ hlq hl hρq (by rw[er];exact hρ))
        have hln:=bytesOf_len hbytes
        have hll:l.length=n:=by rw[hln];simp;omega
        have htk:cur.toList.take n=l.map fun c=>.int .u8 (c.toNat:Int):=by
         have:=(hvvq.take n)
         rw[List.take_take,Nat.min_eq_left hc6] at this
         exact bytesOf_VRs hbytes this
        obtain⟨c1,c2⟩:=(hC (tBase+f)).bst hf hCt w r rq n cap v0 cur l
        have hcall:=c2 (by rintro rfl;simp at hll;omega) hll hheap hheapq hne hncap hcapm (by omega) htk
        have hrun:(execOp a.eval o).run P w=(callFunc f #[.pointer (some ⟨r,0,none⟩)]).run P w:=by
         have hfe:a.eval (.func f)=.func (.func f) #[] #[]:=rfl
         simp[execOp,ho,resolve,hfe,Deferred.ofValue,invoke,hav]
        have hdr:=h.drop (t':=s.t) (h':=hdel s.h d) (fun _=>.inr rfl) (fun j=>hlook_drop1 s.h d j)
        unfold Oper.wp
        rw[hrun,c1 w]
        simp only[Oper.upon]
        refine Calls.mono hcall ?_
        rintro e w' ⟨rfl,f1,f2,f3,f4,f5⟩
        have ht:=hdr.touch hrm (hnf hc3) (fun b' k' σ' hk' hρ'=>by
         rw[hlook_hdel] at hk'
         by_cases e:d=b'
         ·rw[if_pos e] at hk';cases hk'
         ·rw[if_neg e] at hk'
          exact e (h.inj d b' q k' rq σq σ' hlq hk' hρq hρ')) f1 f2 f3 (by omega) (fun j _ hj=>f5 j hj)
        refine hK I ρ _ _ ?_
        rw[hd]
        unfold app appH appG
        refine ht.putO hN (fun y hy=>?_)
        cases hy
        simp only[VR]
        exact⟨_,rfl,by simp,by simp[ByteArray.size];omega⟩
      ·cases he
     ·cases he
    ·cases he
   ·cases he
  ·cases he
 ·cases he
end ops
end
end Go.Am
namespace Go.Am
set_option linter.unusedSimpArgs false
set_option linter.unusedVariables false
def AOpd.slot:AOpd→List Nat
 | .t n=>[n]
 | .c _=>[]
def slotsO:Option AOpd→List Nat
 | some x=>x.slot
 | none=>[]
def slotsL:List AOpd→List Nat
 | []=>[]
 | x::xs=>x.slot++slotsL xs
def slotsP:List (Nat×Nat×AOpd)→List Nat
 | []=>[]
 | (_,_,x)::xs=>x.slot++slotsP xs
def AOp.slots:AOp→List Nat
 | .mkmap=>[]
 | .mget x k _|.ment x k _|.aent x k _ _|.aget x k _ _=>x.slot++k.slot
 | .mset x k v|.mupd x k v=>x.slot++(k.slot++v.slot)
 | .gcall _ xs _ _|.gcal2 _ xs _ _ _=>slotsL xs
 | .mlen x|.mrng x|.entry x|.frz x|.mv x|.box x _|.load _ _ x|.fad x _|.fld x _ _ _|.un _ x|.conv _ x|.ext x _|.len x|.mks _ x _ _|.clear x _ _|.chk x=>x.slot
 | .pick c a b=>c.slot++(a.slot++b.slot)
 | .alloc _|.nil0 _ _=>[]
 | .build _ ps|.mkrow _ _ _ _ ps=>slotsP ps
 | .store x _ v=>x.slot++v.slot
 | .iad x i _ _|.ias x i _|.idx x i _ _ _|.bin _ x i|.eqa _ _ x i|.eqb _ x i|.mnmx _ x i|.app _ _ x i _=>x.slot++i.slot
 | .call _ xs|.clo _ xs=>slotsL xs
 | .dyn x xs=>x.slot++slotsL xs
 | .sl x lo hi _|.ssl x lo hi|.sla x lo hi _ _=>x.slot++(slotsO lo++slotsO hi)
 | .str _ xs=>slotsL xs
 | .b2s x|.cck _ x|.bst _ x=>x.slot
 | .alcT _ _|.no=>[]
 | .aps _ _ x y _=>x.slot++y.slot
def AOper.news (o:AOper):List Nat :=
 match o.op with
 | .alloc _|.alcT _ _|.box _ _|.mkmap|.mrng _=>(match o.d with|some d=>[d]|none=>[])
 | .mkrow id _ _ _ _|.nil0 id _|.app id _ _ _ _|.mks id _ _ _|.gcall _ _ _ id|.aps id _ _ _ _=>[id]
 | .gcal2 _ _ _ a b=>[a,b]
 | _=>[]
def AOper.ww (o:AOper):List Nat :=
 match o.op with
 | .store _ _ _|.clear _ _ _|.ment _ _ _|.aent _ _ _ _|.mset _ _ _|.mupd _ _ _|.cck _ _|.bst _ _=>o.fp
 | .app _ ws _ _ _|.aps _ ws _ _ _=>ws
 | .gcall _ _ bs _|.gcal2 _ _ bs _ _=>bs
 | _=>[]
def AOper.wr (o:AOper):List Nat:=o.news++o.ww
def AOper.guards (o:AOper):List Nat:=match o.gd with|some (g,_)=>[g]|none=>[]
def disj (a b:List Nat):Bool:=a.all fun x => !b.contains x
def dstL (o:AOper):List Nat:=match o.d with|some d=>[d]|none=>[]
def commute (x y:AOper):Bool :=
 disj (dstL x) (y.op.slots++y.guards)&&disj (dstL y) (x.op.slots++x.guards)&&disj (dstL x) (dstL y) &&
 disj x.wr (y.fp++y.wr)&&disj y.wr (x.fp++x.wr)
structure Like (o:AOper) (s s':St):Prop where
 t:∀ n∈o.op.slots,look s'.t n=look s.t n
 g:∀ b∈o.fp++o.news,s'.g b=s.g b
 h:∀ b∈o.fp,(∃ k k',hlook s.h b=some k∧hlook s'.h b=some k'∧k'.cs=k.cs∧k'.esz=k.esz∧(b∈o.ww→k'.frz=k.frz))∨(hlook s.h b=none∧hlook s'.h b=none)
theorem opv_like {s s':St} {x:AOpd} (h:∀ n∈x.slot,look s'.t n=look s.t n):opv s' x=opv s x:=by
 cases x with
 | t n=>exact h n (by simp[AOpd.slot])
 | c v=>rfl
theorem opvs_like {s s':St}:∀ {xs:List AOpd},(∀ n∈slotsL xs,look s'.t n=look s.t n)→xs.map (opv s')=xs.map (opv s)
 | [],_=>rfl
 | x::xs,h=>by
  simp only[List.map_cons]
  rw[opv_like (fun n hn=>h n (by simp[slotsL,hn])),opvs_like (fun n hn=>h n (by simp[slotsL,hn]))]
def blkLike (W:Bool) (x y:Option Blk):Prop :=
 (∃ k k',x=some k∧y=some k'∧k'.cs=k.cs∧k'.esz=k.esz∧(W=true→k'.frz=k.frz))∨(x=none∧y=none)
theorem Like.liveW {o:AOper} {s s':St} (h:Like o s s') (W:Bool) (b g:Nat) (hW:W=true→b∈o.fp→b∈o.ww):blkLike W (liveAt s o.fp b g) (liveAt s' o.fp b g):=by
 unfold liveAt
 by_cases hb:o.fp.contains b=true
 ·rw[if_pos hb,if_pos hb]
  have hm:b∈o.fp:=by simpa using hb
  rw[h.g b (by simp[hm])]
  split
  ·rcases h.h b hm with⟨k,k',h1,h2,h3,h4,h5⟩|⟨h1,h2⟩
   ·exact .inl ⟨k,k',h1,h2,h3,h4,fun e=>h5 (hW e hm)⟩
   ·exact .inr ⟨h1,h2⟩
  ·exact .inr ⟨rfl,rfl⟩
 ·rw[if_neg hb,if_neg hb]
  exact .inr ⟨rfl,rfl⟩
theorem Like.blkW {o:AOper} {s s':St} (h:Like o s s') (W:Bool) (b g:Nat) (hW:W=true→b∈o.fp→b∈o.ww):blkLike W (blkAt s o.fp b g) (blkAt s' o.fp b g):=by
 unfold blkAt
 rcases h.liveW W b g hW with⟨k,k',h1,h2,h3,h4,h5⟩|⟨h1,h2⟩
 ·rw[h1,h2]
  simp only[h4]
  split
  ·exact .inr ⟨rfl,rfl⟩
  ·exact .inl ⟨k,k',rfl,rfl,h3,h4,h5⟩
 ·rw[h1,h2]
  exact .inr ⟨rfl,rfl⟩
theorem Like.mapW {o:AOper} {s s':St} (h:Like o s s') (W:Bool) (b g:Nat) (hW:W=true→b∈o.fp→b∈o.ww):blkLike W (mapAt s o.fp b g) (mapAt s' o.fp b g):=by
 unfold mapAt
 rcases h.liveW W b g hW with⟨k,k',h1,h2,h3,h4,h5⟩|⟨h1,h2⟩
 ·rw[h1,h2]
  simp only[h4,h3]
  split
  ·exact .inl ⟨k,k',rfl,rfl,h3,h4,h5⟩
  ·exact .inr ⟨rfl,rfl⟩
 ·rw[h1,h2]
  exact .inr ⟨rfl,rfl⟩
theorem Like.itW {o:AOper} {s s':St} (h:Like o s s') (W:Bool) (b g:Nat) (hW:W=true→b∈o.fp→b∈o.ww):blkLike W (itAt s o.fp b g) (itAt s' o.fp b g):=by
 unfold itAt
 rcases h.liveW W b g hW with⟨k,k',h1,h2,h3,h4,h5⟩|⟨h1,h2⟩
 ·rw[h1,h2]
  simp only[h4,h3]
  split
  ·exact .inl ⟨k,k',rfl,rfl,h3,h4,h5⟩
  ·exact .inr ⟨rfl,rfl⟩
 ·rw[h1,h2]
  exact .inr ⟨rfl,rfl⟩
theorem blk_ext {k k':Blk} (h1:k'.cs=k.cs) (h2:k'.esz=k.esz) (h3:k'.frz=k.frz):k'=k:=by
 obtain⟨c,f,e⟩:=k
 obtain⟨c',f',e'⟩:=k'
 simp only[] at h1 h2 h3
 rw[h1,h2,h3]
theorem Like.blk {o:AOper} {s s':St} (h:Like o s s') (b g:Nat):blkLike false (blkAt s o.fp b g) (blkAt s' o.fp b g):=h.blkW false b g (fun e=>by cases e)
theorem fill_like {s s':St}:∀(ps:List (Nat×Nat×AOpd)) (cs:List AV),(∀ n∈slotsP ps,look s'.t n=look s.t n)→fill s' cs ps=fill s cs ps
 | [],cs,_=>rfl
 | (o,n,x)::r,cs,h=>by
  simp only[fill]
  rw[opv_like (fun n hn=>h n (by simp[slotsP,hn]))]
  split
  ·split
   ·exact fill_like r _ (fun n hn=>h n (by simp[slotsP,hn]))
   ·rfl
  ·rfl
theorem mapO_congr {f g:AV→Option (AV×List Nat)} (h:∀ x,f x=g x):∀ xs,mapO f xs=mapO g xs
 | []=>rfl
 | x::xs=>by simp only[mapO,h x,mapO_congr h xs]
theorem pure1_like {s s':St} {fp:List Nat} {W:Bool} (hb:∀ b g,blkLike W (blkAt s fp b g) (blkAt s' fp b g)):∀(m:Nat) (x:AV),pure1 s' fp m x=pure1 s fp m x
 | 0,_=>rfl
 | m+1,x=>by
  cases x
  case ptr b g o =>
   simp only[pure1]
   rcases hb b g with⟨k,k',h1,h2,h3,h4,_⟩|⟨h1,h2⟩
   ·simp only[h1,h2,h3,mapO_congr (pure1_like hb m)]
   ·simp only[h1,h2]
  case own b g o n =>
   simp only[pure1]
   rcases hb b g with⟨k,k',h1,h2,h3,h4,_⟩|⟨h1,h2⟩
   ·simp only[h1,h2,h3,h4,mapO_congr (pure1_like hb m)]
   ·simp only[h1,h2]
  all_goals rfl
theorem pureV_like {s s':St} {fp:List Nat} {W:Bool} (hb:∀ b g,blkLike W (blkAt s fp b g) (blkAt s' fp b g)) (x:AV):pureV s' fp x=pureV s fp x:=by
 cases x<;>simp only[pureV,pure1_like hb,mapO_congr (pure1_like hb 4)]
theorem pureVs_like {s s':St} {fp:List Nat} {W:Bool} (hb:∀ b g,blkLike W (blkAt s fp b g) (blkAt s' fp b g)) (xs:List AV):pureVs s' fp xs=pureVs s fp xs:=mapO_congr (pureV_like hb) xs
theorem mapM1_congr {f g:AV→Option AV} (h:∀ x,f x=g x):∀ xs,mapM1 f xs=mapM1 g xs
 | []=>rfl
 | x::xs=>by simp only[mapM1,h x,mapM1_congr h xs]
theorem nrm1_like {s s':St} {fp bs:List Nat} {W:Bool} (hb:∀ b g,blkLike W (blkAt s fp b g) (blkAt s' fp b g)) (x:AV):nrm1 s' fp bs x=nrm1 s fp bs x:=by
 cases x
 case ptr b g o =>
  simp only[nrm1]
  rcases hb b g with⟨k,k',h1,h2,_⟩|⟨h1,h2⟩<;>simp only[h1,h2]<;>cases posOf b bs 0<;>rfl
 case own b g o n =>
  simp only[nrm1]
  rcases hb b g with⟨k,k',h1,h2,_⟩|⟨h1,h2⟩<;>simp only[h1,h2]<;>cases posOf b bs 0<;>rfl
 all_goals rfl
theorem nrm_like {s s':St} {fp bs:List Nat} {W:Bool} (hb:∀ b g,blkLike W (blkAt s fp b g) (blkAt s' fp b g)) (x:AV):nrm s' fp bs x=nrm s fp bs x:=by
 cases x<;>simp only[nrm,nrm1_like hb,mapM1_congr (nrm1_like hb)]
theorem garg_like {s s':St} {fp bs:List Nat} {W:Bool} (hb:∀ b g,blkLike W (blkAt s fp b g) (blkAt s' fp b g)) (x:AV):garg s' fp bs x=garg s fp bs x:=by
 simp only[garg,nrm_like hb,pureV_like hb]
theorem gblks_like {s s':St} {fp bs:List Nat} {W:Bool} (hb:∀ b g,blkLike W (blkAt s fp b g) (blkAt s' fp b g)):∀(l:List Nat) (i:Nat),(∀ b∈l,b∈fp→hlook s'.h b=hlook s.h b)→gblks s' fp bs l i=gblks s fp bs l i
 | [],_,_=>rfl
 | b::l,i,h=>by
  simp only[gblks]
  split
  ·rename_i hc
   rw[h b (by simp) (by simpa using hc),gblks_like hb l (i+1) (fun b hm=>h b (by simp[hm]))]
   simp only[mapM1_congr (nrm1_like hb)]
  ·rfl
theorem gblks_mem {s:St} {fp bs:List Nat}:∀ {l:List Nat} {i:Nat} {hg:Hp},gblks s fp bs l i=some hg→∀ b∈l,b∈fp
 | [],_,_,_=>by simp
 | b::l,i,hg,h=>by
  simp only[gblks] at h
  split at h
  ·rename_i hc
   split at h
   ·split at h
    ·split at h
     ·rename_i h1 h2
      intro c hm
      rcases List.mem_cons.1 hm with rfl|hm
      ·simpa using hc
      ·exact gblks_mem h2 c hm
     ·cases h
    ·cases h
   ·intro c hm
    rcases List.mem_cons.1 hm with rfl|hm
    ·simpa using hc
    ·exact gblks_mem h c hm
  ·cases h
theorem gmap_like {s s':St} {kept new:Option Nat} (h1:∀ b,kept=some b→s'.g b=s.g b) (h2:∀ b,new=some b→s'.g b=s.g b):gmap s' kept new=gmap s kept new:=by
 funext c
 unfold gmap
 split
 ·cases kept with
  | none=>rfl
  | some b=>simp only[h1 b rfl]
 ·cases new with
  | none=>rfl
  | some b=>simp only[h2 b rfl]
 ·rfl
theorem geff_like {s s':St} {bs:List Nat} {nid:Nat} {fz:List Nat} {r:AV} {h:Hp} (h1:∀ b∈bs,s'.g b=s.g b∧hlook s'.h b=hlook s.h b) (h2:s'.g nid=s.g nid):geff s' bs nid fz r h=geff s bs nid fz r h:=by
 unfold geff
 split
 ·rw[gmap_like (s:=s) (s':=s') (fun b hb=>by cases hb) (fun b hb=>by cases hb)]
 ·rw[gmap_like (s:=s) (s':=s') (fun b hb=>by cases hb) (fun b hb=>by cases hb;exact h2)]
 ·rename_i b k
  have:=h1 b (by simp)
  rw[gmap_like (s:=s) (s':=s') (fun c hb=>by cases hb;exact this.1) (fun b hb=>by cases hb),this.2]
 ·rename_i b x k k2
  have:=h1 b (by simp)
  rw[gmap_like (s:=s) (s':=s') (fun c hb=>by cases hb;exact this.1) (fun b hb=>by cases hb;exact h2),this.2]
 ·rfl
theorem gmap2_like {s s':St} {kept n1 n2:Option Nat} (h0:∀ b,kept=some b→s'.g b=s.g b) (h1:∀ b,n1=some b→s'.g b=s.g b) (h2:∀ b,n2=some b→s'.g b=s.g b):gmap2 s' kept n1 n2=gmap2 s kept n1 n2:=by
 funext c
 unfold gmap2
 split
 ·cases kept with
  | none=>rfl
  | some b=>simp only[h0 b rfl]
 ·cases n1 with
  | none=>rfl
  | some b=>simp only[h1 b rfl]
 ·cases n2 with
  | none=>rfl
  | some b=>simp only[h2 b rfl]
 ·rfl
theorem geff2_like {s s':St} {bs:List Nat} {n1 n2:Nat} {fz:List Nat} {r:AV} {h:Hp} (h1:∀ b∈bs,s'.g b=s.g b∧hlook s'.h b=hlook s.h b) (h2:s'.g n1=s.g n1) (h3:s'.g n2=s.g n2):geff2 s' bs n1 n2 fz r h=geff2 s bs n1 n2 fz r h:=by
 have hn:∀ {c b:Nat},(none:Option Nat)=some b→s'.g b=s.g b:=fun hb=>by cases hb
 have q1:∀ b,some n1=some b→s'.g b=s.g b:=fun b hb=>by cases hb;exact h2
 have q2:∀ b,some n2=some b→s'.g b=s.g b:=fun b hb=>by cases hb;exact h3
 have q0:∀ b,(none:Option Nat)=some b→s'.g b=s.g b:=fun b hb=>by cases hb
 unfold geff2
 split
 ·rw[gmap2_like (s:=s) (s':=s') q0 q1 q0]
 ·rw[gmap2_like (s:=s) (s':=s') q0 q1 q2]
 ·rename_i b x y k
  have:=h1 b (by simp)
  rw[gmap2_like (s:=s) (s':=s') (fun c hb=>by cases hb;exact this.1) q0 q0,this.2]
 ·rename_i b x y k k3
  have:=h1 b (by simp)
  rw[gmap2_like (s:=s) (s':=s') (fun c hb=>by cases hb;exact this.1) q1 q0,this.2]
 ·rename_i b x y k k3 k4
  have:=h1 b (by simp)
  rw[gmap2_like (s:=s) (s':=s') (fun c hb=>by cases hb;exact this.1) q1 q2,this.2]
 ·rfl
theorem caps_like {s s':St} {fp:List Nat} {W:Bool} (hb:∀ b g,blkLike W (blkAt s fp b g) (blkAt s' fp b g)):∀ xs,caps s' fp xs=caps s fp xs
 | []=>rfl
 | x::xs=>by
  cases x
  case ptr b g o =>
   simp only[caps,caps_like hb xs]
   cases caps s fp xs with
   | none=>rfl
   | some q =>
    obtain⟨vs,fs⟩:=q
    simp only[]
    rcases hb b g with⟨k,k',h1,h2,h3,h4,_⟩|⟨h1,h2⟩
    ·simp only[h1,h2,h3]
    ·simp only[h1,h2]
  all_goals (simp only[caps,caps_like hb xs];try (cases caps s fp xs<;>rfl))
theorem shows_like {s s':St} {fp:List Nat} {W:Bool} (hb:∀ b g,blkLike W (blkAt s fp b g) (blkAt s' fp b g)) (sz:Nat) (x:AV):shows s' fp sz x=shows s fp sz x:=by
 cases x<;>try rfl
 rename_i b g o n
 simp only[shows]
 rcases hb b g with⟨k,k',h1,h2,h3,h4,_⟩|⟨h1,h2⟩
 ·simp only[h1,h2,h3]
 ·simp only[h1,h2]
theorem bounds_like {s s':St} {n:Nat} {lo hi:Option AOpd} (h:∀ m∈slotsO lo++slotsO hi,look s'.t m=look s.t m):bounds s' n lo hi=bounds s n lo hi:=by
 unfold bounds
 cases hi with
 | none =>
  cases lo with
  | none=>rfl
  | some l=>simp only[opv_like (s:=s) (s':=s') (x:=l) (fun m hm=>h m (by simp[slotsO,hm]))]
 | some z =>
  have hz:=opv_like (s:=s) (s':=s') (x:=z) (fun m hm=>h m (by simp[slotsO,hm]))
  cases lo with
  | none=>simp only[hz]
  | some l=>simp only[hz,opv_like (s:=s) (s':=s') (x:=l) (fun m hm=>h m (by simp[slotsO,hm]))]
theorem showB_like {s s':St} {fp:List Nat} {W:Bool} (hb:∀ b g,blkLike W (blkAt s fp b g) (blkAt s' fp b g)) (x:AV):showB s' fp x=showB s fp x:=by
 cases x
 case own b g o n=>exact shows_like hb 1 (.own b g o n)
 all_goals rfl
theorem eff_like {C:Cs} {o:AOper} {s s':St} (h:Like o s s'):eff C s' o=eff C s o:=by
 have hb:=h.blk
 have hbw:=h.blkW true
 have hm:∀ b g,blkLike false (mapAt s o.fp b g) (mapAt s' o.fp b g):=fun b g=>h.mapW false b g (fun e=>by cases e)
 have hmw:=h.mapW true
 have hiw:∀ b g,blkLike false (itAt s o.fp b g) (itAt s' o.fp b g):=fun b g=>h.itW false b g (fun e=>by cases e)
 obtain⟨d,op,gd,fp⟩:=o
 have ht:=h.t
 have hg:=h.g
 have hop:∀ x:AOpd,(∀ n∈x.slot,n∈op.slots)→opv s' x=opv s x:=fun x hx=>opv_like fun n hn=>ht n (hx n hn)
 cases op
 case mv x=>simp only[eff,hop x (fun n hn=>by simpa [AOp.slots] using hn)]
 case pick c a b =>
  simp only[eff,hop c (fun n hn=>by simp[AOp.slots,hn]),hop a (fun n hn=>by simp[AOp.slots,hn]),hop b (fun n hn=>by simp[AOp.slots,hn])]
 case alloc z =>
  cases d with
  | none=>rfl
  | some d=>simp only[eff,hg d (by simp[AOper.news])]
 case box x n =>
  simp only[eff,hop x (fun n hn=>by simpa [AOp.slots] using hn)]
  cases d with
  | none=>rfl
  | some d =>
   have:=hg d (by simp[AOper.news])
   cases (opv s x).cells with
   | none=>rfl
   | some cs=>simp only[this]
 case build z ps=>simp only[eff,fill_like ps z (fun n hn=>ht n (by simpa [AOp.slots] using hn))]
 case mkrow id len sz z ps=>simp only[eff,fill_like ps (rep len z) (fun n hn=>ht n (by simpa [AOp.slots] using hn)),hg id (by simp[AOper.news])]
 case nil0 id sz=>simp only[eff,hg id (by simp[AOper.news])]
 case load n agg x =>
  simp only[eff,hop x (fun n hn=>by simpa [AOp.slots] using hn)]
  split<;>try rfl
  rename_i b g p _
  rcases hb b g with⟨k,k',h1,h2,h3,h4,_⟩|⟨h1,h2⟩
  ·simp only[] at h1 h2;simp only[h1,h2,h3]
  ·simp only[] at h1 h2;simp only[h1,h2]
 case store x n v =>
  simp only[eff,hop x (fun n hn=>by simp[AOp.slots,hn]),hop v (fun n hn=>by simp[AOp.slots,hn])]
  split<;>try rfl
  rename_i b g p _
  rcases hbw b g (fun _ hm=>hm) with⟨k,k',h1,h2,h3,h4,h5⟩|⟨h1,h2⟩
  ·have h6:k'=k:=by
    obtain⟨c,f,e⟩:=k
    obtain⟨c',f',e'⟩:=k'
    have:=h5 rfl
    simp only[] at h3 h4 this
    rw[h3,h4,this]
   subst h6
   simp only[] at h1 h2;simp only[h1,h2]
  ·simp only[] at h1 h2;simp only[h1,h2]
 case fad x off =>
  simp only[eff,hop x (fun n hn=>by simpa [AOp.slots] using hn)]
  split<;>try rfl
  rename_i b g p _
  rcases hb b g with⟨k,k',h1,h2,h3,h4,_⟩|⟨h1,h2⟩
  ·simp only[] at h1 h2;simp only[h1,h2]
  ·simp only[] at h1 h2;simp only[h1,h2]
 case iad x i sz len =>
  simp only[eff,hop x (fun n hn=>by simp[AOp.slots,hn]),hop i (fun n hn=>by simp[AOp.slots,hn])]
  split<;>try rfl
  split<;>try rfl
  split<;>try rfl
  rename_i b g p _
  rcases hb b g with⟨k,k',h1,h2,h3,h4,_⟩|⟨h1,h2⟩
  ·simp only[] at h1 h2;simp only[h1,h2]
  ·simp only[] at h1 h2;simp only[h1,h2]
 case ias x i sz =>
  simp only[eff,hop x (fun n hn=>by simp[AOp.slots,hn]),hop i (fun n hn=>by simp[AOp.slots,hn])]
  split<;>try rfl
  split<;>try rfl
  rename_i n _ _ b g p len _
  rcases hb b g with⟨k,k',h1,h2,h3,h4,_⟩|⟨h1,h2⟩
  ·simp only[] at h1 h2;simp only[h1,h2];cases offOf n len sz<;>rfl
  ·simp only[] at h1 h2;simp only[h1,h2]
 case fld x off n agg=>simp only[eff,hop x (fun n hn=>by simpa [AOp.slots] using hn)]
 case idx x i sz len agg=>simp only[eff,hop x (fun n hn=>by simp[AOp.slots,hn]),hop i (fun n hn=>by simp[AOp.slots,hn])]
 case bin op x y=>simp only[eff,hop x (fun n hn=>by simp[AOp.slots,hn]),hop y (fun n hn=>by simp[AOp.slots,hn])]
 case eqa neg ks x y=>simp only[eff,hop x (fun n hn=>by simp[AOp.slots,hn]),hop y (fun n hn=>by simp[AOp.slots,hn])]
 case eqb neg x y=>simp only[eff,hop x (fun n hn=>by simp[AOp.slots,hn]),hop y (fun n hn=>by simp[AOp.slots,hn])]
 case un op x=>simp only[eff,hop x (fun n hn=>by simpa [AOp.slots] using hn)]
 case conv k x=>simp only[eff,hop x (fun n hn=>by simpa [AOp.slots] using hn)]
 case ext x i=>simp only[eff,hop x (fun n hn=>by simpa [AOp.slots] using hn)]
 case call f args =>
  have h1:args.map (opv s')=args.map (opv s):=opvs_like fun n hn=>ht n (by simpa [AOp.slots] using hn)
  simp only[eff,h1,pureVs_like hb]
 case frz x=>simp only[eff,hop x (fun n hn=>by simpa [AOp.slots] using hn),pureV_like hb]
 case gcall f args bs nid =>
  have h1:args.map (opv s')=args.map (opv s):=opvs_like fun n hn=>ht n (by simpa [AOp.slots] using hn)
  have hl:∀ b∈bs,b∈fp→hlook s'.h b=hlook s.h b:=by
   intro b hm hf
   rcases h.h b hf with⟨k,k',e1,e2,e3,e4,e5⟩|⟨e1,e2⟩
   ·rw[e1,e2,blk_ext e3 e4 (e5 hm)]
   ·rw[e1,e2]
  simp only[eff,h1,mapO_congr (garg_like hb),gblks_like hb bs 0 hl]
  split<;>try rfl
  rename_i vs fz hh _ hgb
  split<;>try rfl
  split<;>try rfl
  split<;>try rfl
  exact geff_like (fun b hm=>⟨hg b (by simp[gblks_mem hgb b hm]),hl b hm (gblks_mem hgb b hm)⟩) (hg nid (by simp[AOper.news]))
 case gcal2 f args bs n1 n2 =>
  have h1:args.map (opv s')=args.map (opv s):=opvs_like fun n hn=>ht n (by simpa [AOp.slots] using hn)
  have hl:∀ b∈bs,b∈fp→hlook s'.h b=hlook s.h b:=by
   intro b hm hf
   rcases h.h b hf with⟨k,k',e1,e2,e3,e4,e5⟩|⟨e1,e2⟩
   ·rw[e1,e2,blk_ext e3 e4 (e5 hm)]
   ·rw[e1,e2]
  simp only[eff,h1,mapO_congr (garg_like hb),gblks_like hb bs 0 hl]
  split<;>try rfl
  rename_i vs fz hh _ hgb
  split<;>try rfl
  split<;>try rfl
  split<;>try rfl
  exact geff2_like (fun b hm=>⟨hg b (by simp[gblks_mem hgb b hm]),hl b hm (gblks_mem hgb b hm)⟩) (hg n1 (by simp[AOper.news])) (hg n2 (by simp[AOper.news]))
 case dyn x args =>
  have h1:args.map (opv s')=args.map (opv s):=opvs_like fun n hn=>ht n (by simp[AOp.slots,hn])
  simp only[eff,h1,pureVs_like hb,hop x (fun n hn=>by simp[AOp.slots,hn])]
 case app id ws x y sz =>
  simp only[eff,hop x (fun n hn=>by simp[AOp.slots,hn]),hop y (fun n hn=>by simp[AOp.slots,hn]),shows_like hb,hg id (by simp[AOper.news])]
  split<;>try rfl
  split<;>try rfl
  rename_i b g p n _
  split<;>try rfl
  rename_i hws
  rcases hbw b g (fun _ _=>by simpa [AOper.ww] using hws) with⟨k,k',h1,h2,h3,h4,h5⟩|⟨h1,h2⟩
  ·have h6:k'=k:=by
    obtain⟨c,f,e⟩:=k
    obtain⟨c',f',e'⟩:=k'
    have:=h5 rfl
    simp only[] at h3 h4 this
    rw[h3,h4,this]
   subst h6
   simp only[] at h1 h2;simp only[h1,h2]
  ·simp only[] at h1 h2;simp only[h1,h2]
 case len x =>
  simp only[eff,hop x (fun n hn=>by simpa [AOp.slots] using hn)]
  split<;>try rfl
  rename_i b g p n _
  rcases hb b g with⟨k,k',h1,h2,h3,h4,_⟩|⟨h1,h2⟩
  ·simp only[] at h1 h2;simp only[h1,h2]
  ·simp only[] at h1 h2;simp only[h1,h2]
 case mnmx mx x y=>simp only[eff,hop x (fun n hn=>by simp[AOp.slots,hn]),hop y (fun n hn=>by simp[AOp.slots,hn])]
 case mks id n sz z=>simp only[eff,hop n (fun n hn=>by simpa [AOp.slots] using hn),hg id (by simp[AOper.news])]
 case sl x lo hi sz =>
  have hbd:∀ n,bounds s' n lo hi=bounds s n lo hi:=fun n=>bounds_like fun m hm=>ht m (by simp only[AOp.slots];exact List.mem_append_right _ hm)
  simp only[eff,hop x (fun n hn=>by simp[AOp.slots,hn]),hbd]
  split<;>try rfl
  rename_i b g p n _
  rcases hb b g with⟨k,k',h1,h2,h3,h4,_⟩|⟨h1,h2⟩
  ·simp only[] at h1 h2;simp only[h1,h2];cases bounds s n lo hi<;>rfl
  ·simp only[] at h1 h2;simp only[h1,h2]
 case clear x sz z =>
  simp only[eff,hop x (fun n hn=>by simpa [AOp.slots] using hn)]
  split<;>try rfl
  rename_i b g p n _
  rcases hbw b g (fun _ hm=>hm) with⟨k,k',h1,h2,h3,h4,h5⟩|⟨h1,h2⟩
  ·have h6:k'=k:=by
    obtain⟨c,f,e⟩:=k
    obtain⟨c',f',e'⟩:=k'
    have:=h5 rfl
    simp only[] at h3 h4 this
    rw[h3,h4,this]
   subst h6
   simp only[] at h1 h2;simp only[h1,h2]
  ·simp only[] at h1 h2;simp only[h1,h2]
 case clo f cs =>
  have h1:cs.map (opv s')=cs.map (opv s):=opvs_like fun n hn=>ht n (by simpa [AOp.slots] using hn)
  simp only[eff,h1,caps_like hb]
 case chk x =>
  simp only[eff,hop x (fun n hn=>by simpa [AOp.slots] using hn)]
  split<;>try rfl
  rename_i b g p _
  rcases hb b g with⟨k,k',h1,h2,h3,h4,_⟩|⟨h1,h2⟩
  ·simp only[] at h1 h2;simp only[h1,h2]
  ·simp only[] at h1 h2;simp only[h1,h2]
 case mkmap =>
  cases d with
  | none=>rfl
  | some d=>simp only[eff,hg d (by simp[AOper.news])]
 case mget x k z =>
  simp only[eff,hop x (fun n hn=>by simp[AOp.slots,hn]),hop k (fun n hn=>by simp[AOp.slots,hn])]
  split<;>try rfl
  rename_i b g n _ _
  rcases hm b g with⟨k,k',h1,h2,h3,h4,_⟩|⟨h1,h2⟩
  ·simp only[] at h1 h2;simp only[h1,h2,h3]
  ·simp only[] at h1 h2;simp only[h1,h2]
 case aget x k m z =>
  simp only[eff,hop x (fun n hn=>by simp[AOp.slots,hn]),hop k (fun n hn=>by simp[AOp.slots,hn])]
  split<;>try rfl
  rename_i b g n _ _
  rcases hm b g with⟨k,k',h1,h2,h3,h4,_⟩|⟨h1,h2⟩
  ·simp only[] at h1 h2;simp only[h1,h2];cases ints n<;>simp only[h3]
  ·simp only[] at h1 h2;simp only[h1,h2]
 case ment x k z =>
  simp only[eff,hop x (fun n hn=>by simp[AOp.slots,hn]),hop k (fun n hn=>by simp[AOp.slots,hn])]
  split<;>try rfl
  rename_i b g n _ _
  rcases hmw b g (fun _ hm=>hm) with⟨k,k',h1,h2,h3,h4,h5⟩|⟨h1,h2⟩
  ·have h6:k'=k:=blk_ext h3 h4 (h5 rfl)
   subst h6
   simp only[] at h1 h2;simp only[h1,h2]
  ·simp only[] at h1 h2;simp only[h1,h2]
 case aent x k m z =>
  simp only[eff,hop x (fun n hn=>by simp[AOp.slots,hn]),hop k (fun n hn=>by simp[AOp.slots,hn])]
  split<;>try rfl
  rename_i b g n _ _
  rcases hmw b g (fun _ hm=>hm) with⟨k,k',h1,h2,h3,h4,h5⟩|⟨h1,h2⟩
  ·have h6:k'=k:=blk_ext h3 h4 (h5 rfl)
   subst h6
   simp only[] at h1 h2;simp only[h1,h2]
  ·simp only[] at h1 h2;simp only[h1,h2]
 case mset x k v =>
  simp only[eff,hop x (fun n hn=>by simp[AOp.slots,hn]),hop k (fun n hn=>by simp[AOp.slots,hn]),hop v (fun n hn=>by simp[AOp.slots,hn])]
  split<;>try rfl
  rename_i b g n _ _
  rcases hmw b g (fun _ hm=>hm) with⟨k,k',h1,h2,h3,h4,h5⟩|⟨h1,h2⟩
  ·have h6:k'=k:=blk_ext h3 h4 (h5 rfl)
   subst h6
   simp only[] at h1 h2;simp only[h1,h2]
  ·simp only[] at h1 h2;simp only[h1,h2]
 case mupd x k v =>
  simp only[eff,hop x (fun n hn=>by simp[AOp.slots,hn]),hop k (fun n hn=>by simp[AOp.slots,hn]),hop v (fun n hn=>by simp[AOp.slots,hn])]
  split<;>try rfl
  rename_i b g n _ _
  rcases hmw b g (fun _ hm=>hm) with⟨k,k',h1,h2,h3,h4,h5⟩|⟨h1,h2⟩
  ·have h6:k'=k:=blk_ext h3 h4 (h5 rfl)
   subst h6
   simp only[] at h1 h2;simp only[h1,h2]
  ·simp only[] at h1 h2;simp only[h1,h2]
 case mlen x =>
  simp only[eff,hop x (fun n hn=>by simpa [AOp.slots] using hn)]
  split<;>try rfl
  rename_i b g _
  rcases hm b g with⟨k,k',h1,h2,h3,h4,_⟩|⟨h1,h2⟩
  ·simp only[] at h1 h2;simp only[h1,h2,h3]
  ·simp only[] at h1 h2;simp only[h1,h2]
 case mrng x =>
  simp only[eff,hop x (fun n hn=>by simpa [AOp.slots] using hn)]
  split<;>try rfl
  rename_i dd b g _
  rcases hm b g with⟨k,k',h1,h2,h3,h4,_⟩|⟨h1,h2⟩
  ·simp only[] at h1 h2;simp only[h1,h2,h3,hg dd (by simp[AOper.news])]
  ·simp only[] at h1 h2;simp only[h1,h2]
 case entry x =>
  simp only[eff,hop x (fun n hn=>by simpa [AOp.slots] using hn)]
  split<;>try rfl
  rename_i b g _
  rcases hiw b g with⟨k,k',h1,h2,h3,h4,_⟩|⟨h1,h2⟩
  ·simp only[] at h1 h2
   simp only[h1,h2,h3]
   split<;>try rfl
   rename_i mb mg n c seen _
   rcases hm mb mg with⟨q,q',g1,g2,g3,g4,_⟩|⟨g1,g2⟩
   ·simp only[] at g1 g2;simp only[g1,g2,g3]
   ·simp only[] at g1 g2;simp only[g1,g2]
  ·simp only[] at h1 h2;simp only[h1,h2]

 case str k xs =>
  have h1:xs.map (opv s')=xs.map (opv s):=opvs_like fun n hn=>ht n (by simpa [AOp.slots] using hn)
  simp only[eff,h1]
 case ssl x lo hi =>
  have hbd:∀ n,bounds s' n lo hi=bounds s n lo hi:=fun n=>bounds_like fun m hm=>ht m (by simp only[AOp.slots];exact List.mem_append_right _ hm)
  simp only[eff,hop x (fun n hn=>by simp[AOp.slots,hn]),hbd]
 case b2s x=>simp only[eff,hop x (fun n hn=>by simpa [AOp.slots] using hn),shows_like hb]
 case sla x lo hi sz len =>
  have hbd:∀ n,bounds s' n lo hi=bounds s n lo hi:=fun n=>bounds_like fun m hm=>ht m (by simp only[AOp.slots];exact List.mem_append_right _ hm)
  simp only[eff,hop x (fun n hn=>by simp[AOp.slots,hn]),hbd]
  split<;>try rfl
  rename_i b g p _
  rcases hb b g with⟨k,k',h1,h2,h3,h4,_⟩|⟨h1,h2⟩
  ·simp only[] at h1 h2;simp only[h1,h2];cases bounds s len lo hi<;>simp only[h3,h4]
  ·simp only[] at h1 h2;simp only[h1,h2]
 case alcT t z =>
  cases d with
  | none=>rfl
  | some d=>simp only[eff,hg d (by simp[AOper.news])]
 case aps id ws x y t =>
  simp only[eff,hop x (fun n hn=>by simp[AOp.slots,hn]),hop y (fun n hn=>by simp[AOp.slots,hn]),showB_like hb,hg id (by simp[AOper.news])]
  split<;>try rfl
  split<;>try rfl
  rename_i b g p n _
  split<;>try rfl
  rename_i hws
  rcases hbw b g (fun _ _=>by simpa [AOper.ww] using hws) with⟨k,k',h1,h2,h3,h4,h5⟩|⟨h1,h2⟩
  ·have h6:k'=k:=blk_ext h3 h4 (h5 rfl)
   subst h6
   simp only[] at h1 h2;simp only[h1,h2]
  ·simp only[] at h1 h2;simp only[h1,h2]
 case cck f x =>
  simp only[eff,hop x (fun n hn=>by simpa [AOp.slots] using hn)]
  split<;>try rfl
  rename_i b g t _ _
  rcases hbw b g (fun _ hm=>hm) with⟨k,k',h1,h2,h3,h4,h5⟩|⟨h1,h2⟩
  ·have h6:k'=k:=blk_ext h3 h4 (h5 rfl)
   subst h6
   simp only[] at h1 h2;simp only[h1,h2]
  ·simp only[] at h1 h2;simp only[h1,h2]
 case bst f x =>
  simp only[eff,hop x (fun n hn=>by simpa [AOp.slots] using hn)]
  split<;>try rfl
  rename_i b g t u _ _
  rcases hbw b g (fun _ hm=>hm) with⟨k,k',h1,h2,h3,h4,h5⟩|⟨h1,h2⟩
  ·have h6:k'=k:=blk_ext h3 h4 (h5 rfl)
   subst h6
   simp only[] at h1 h2
   simp only[h1,h2]
   split<;>try rfl
   rename_i d2 g2 n _
   rcases hbw d2 g2 (fun _ hm=>hm) with⟨q,q',h7,h8,h9,h10,h11⟩|⟨h7,h8⟩
   ·have h12:q'=q:=blk_ext h9 h10 (h11 rfl)
    subst h12
    simp only[] at h7 h8;simp only[h7,h8]
   ·simp only[] at h7 h8;simp only[h7,h8]
  ·simp only[] at h1 h2;simp only[h1,h2]
 case no=>rfl
theorem liveAt_mem {s:St} {fp:List Nat} {b g:Nat} {k:Blk} (h:liveAt s fp b g=some k):b∈fp:=by
 unfold liveAt at h
 split at h
 ·rename_i hc
  simpa using hc
 ·cases h
theorem blkAt_mem {s:St} {fp:List Nat} {b g:Nat} {k:Blk} (h:blkAt s fp b g=some k):b∈fp:=liveAt_mem (blkAt_live h).1
theorem mapAt_mem {s:St} {fp:List Nat} {b g:Nat} {k:Blk} (h:mapAt s fp b g=some k):b∈fp:=liveAt_mem (mapAt_live h).1
theorem mapO_mem {f:AV→Option (AV×List Nat)} {fp:List Nat} (hf:∀ x y fz,f x=some (y,fz)→∀ b∈fz,b∈fp):∀ xs ys fz,mapO f xs=some (ys,fz)→∀ b∈fz,b∈fp
 | [],ys,fz,h=>by simp[mapO] at h;obtain⟨_,rfl⟩:=h;simp
 | x::xs,ys,fz,h=>by
  simp only[mapO] at h
  split at h
  ·rename_i v g vs gs h1 h2
   cases h
   intro b hb
   rcases List.mem_append.1 hb with hb|hb
   ·exact hf x v g h1 b hb
   ·exact mapO_mem hf xs vs gs h2 b hb
  ·cases h
theorem pure1_mem {s:St} {fp:List Nat}:∀(m:Nat) (x y:AV) (fz:List Nat),pure1 s fp m x=some (y,fz)→∀ b∈fz,b∈fp
 | 0,_,_,_,h=>by simp[pure1] at h
 | m+1,x,y,fz,h=>by
  cases x<;>simp only[pure1,Option.some.injEq,Prod.mk.injEq,reduceCtorEq] at h
  case ptr b g o =>
   split at h
   ·rename_i k hk
    have hm:=blkAt_mem hk
    split at h
    ·cases h;simpa using hm
    ·split at h
     ·rename_i vs f hf
      cases h
      intro c hc
      rcases List.mem_cons.1 hc with rfl|hc
      ·exact hm
      ·exact mapO_mem (fun x y fz=>pure1_mem m x y fz) _ _ _ hf c hc
     ·cases h
   ·cases h
  case own b g o n =>
   split at h
   ·rename_i k hk
    have hm:=blkAt_mem hk
    split at h
    ·split at h
     ·cases h;simpa using hm
     ·split at h
      ·rename_i vs f hf
       cases h
       intro c hc
       rcases List.mem_cons.1 hc with rfl|hc
       ·exact hm
       ·exact mapO_mem (fun x y fz=>pure1_mem m x y fz) _ _ _ hf c hc
      ·cases h
    ·cases h
   ·cases h
  all_goals (obtain⟨_,rfl⟩:=h;simp)
theorem pureVs_mem {s:St} {fp:List Nat} (xs ys:List AV) (fz:List Nat) (h:pureVs s fp xs=some (ys,fz)):∀ b∈fz,b∈fp:=by
 refine mapO_mem (f:=pureV s fp) (fun x y fz hx=>?_) xs ys fz h
 cases x with
 | agg zs =>
  simp only[pureV] at hx
  split at hx
  ·cases hx;simp
  ·split at hx
   ·rename_i vs f hf
    cases hx
    exact mapO_mem (fun x y fz=>pure1_mem 4 x y fz) _ _ _ hf
   ·cases hx
 | _=>exact pure1_mem 4 _ y fz (by simpa [pureV] using hx)
theorem caps_mem {s:St} {fp:List Nat}:∀(xs ys:List AV) (fz:List Nat),caps s fp xs=some (ys,fz)→∀ b∈fz,b∈fp
 | [],ys,fz,h=>by simp[caps] at h;obtain⟨_,rfl⟩:=h;simp
 | x::xs,ys,fz,h=>by
  simp only[caps] at h
  split at h
  ·rename_i b g o vs fs hc
   split at h
   ·rename_i k hk
    split at h
    ·cases h
     intro c hm
     rcases List.mem_cons.1 hm with rfl|hm
     ·exact blkAt_mem hk
     ·exact caps_mem xs vs fs hc c hm
    ·cases h
   ·cases h
  ·rename_i o cs vs fs hc
   cases h
   exact caps_mem xs vs fz hc
  ·cases h
structure Shape (o:AOper) (e:Eff):Prop where
 nw:∀ b k,e.nw=some (b,k)→b∈o.news
 rm:∀ b,e.rm=some b→b∈o.ww
 st:∀ b k,e.st=some (b,k)→b∈o.ww
 fz:∀ b∈e.fz,b∈o.fp
structure Shape2 (o:AOper) (e:Eff):Prop extends Shape o e where
 nw2:∀ b k,e.nw2=some (b,k)→b∈o.news
 rm2:∀ b,e.rm2=some b→b∈o.ww
theorem Shape.val {o:AOper} {x:AV} {e:Eff} (h:val x=.ok e):Shape o e:=by
 unfold Am.val at h;cases h
 exact⟨by simp,by simp,by simp,by simp⟩
theorem Shape.valO {o:AOper} {x:Option AV} {e:Eff} (h:valO x=.ok e):Shape o e:=by
 cases x with
 | none=>cases h
 | some y=>unfold Am.valO at h;cases h;exact⟨by simp,by simp,by simp,by simp⟩
theorem garg_mem {s:St} {fp bs:List Nat} (x y:AV) (fz:List Nat) (h:garg s fp bs x=some (y,fz)):∀ b∈fz,b∈fp:=by
 unfold garg at h
 split at h
 ·cases h;simp
 ·have:=pureVs_mem [x] [y] fz (fp:=fp) (s:=s) (by simp[pureVs,mapO,h])
  exact this
theorem geff_shape {s:St} {bs:List Nat} {nid:Nat} {fz:List Nat} {r:AV} {h:Hp} {e:Eff} {d:Option Nat} {f:Nat} {args:List AOpd} {gd:Option (Nat×Bool)} {fp:List Nat} (hz:∀ b∈fz,b∈fp) (he:geff s bs nid fz r h=.ok e) :
  Shape ⟨d,.gcall f args bs nid,gd,fp⟩ e:=by
 unfold geff at he
 split at he
 ·split at he
  ·cases he
   exact⟨by simp,by simp,by simp,hz⟩
  ·cases he
 ·split at he
  ·split at he
   ·cases he
    exact⟨fun b k hb=>by cases hb;simp[AOper.news],by simp,by simp,hz⟩
   ·cases he
  ·cases he
 ·split at he
  ·split at he
   ·cases he
    exact⟨by simp,by simp,fun b k hb=>by cases hb;simp[AOper.ww],hz⟩
   ·cases he
  ·cases he
 ·split at he
  ·split at he
   ·cases he
    exact⟨fun b k hb=>by cases hb;simp[AOper.news],fun b hb=>by cases hb;simp[AOper.ww],fun b k hb=>by cases hb;simp[AOper.ww],hz⟩
   ·cases he
  ·cases he
 ·cases he
theorem geff2_shape {s:St} {bs:List Nat} {n1 n2:Nat} {fz:List Nat} {r:AV} {h:Hp} {e:Eff} {d:Option Nat} {f:Nat} {args:List AOpd} {gd:Option (Nat×Bool)} {fp:List Nat} (hz:∀ b∈fz,b∈fp) (he:geff2 s bs n1 n2 fz r h=.ok e) :
  Shape2 ⟨d,.gcal2 f args bs n1 n2,gd,fp⟩ e:=by
 unfold geff2 at he
 split at he
 ·split at he
  ·split at he
   ·cases he
    exact⟨⟨fun b k hb=>by cases hb;simp[AOper.news],by simp,by simp,hz⟩,by simp,by simp⟩
   ·cases he
  ·cases he
 ·split at he
  ·split at he
   ·cases he
    exact⟨⟨fun b k hb=>by cases hb;simp[AOper.news],by simp,by simp,hz⟩,fun b k hb=>by cases hb;simp[AOper.news],by simp⟩
   ·cases he
  ·cases he
 ·split at he
  ·split at he
   ·cases he
    exact⟨⟨by simp,fun b hb=>by cases hb;simp[AOper.ww],fun b k hb=>by cases hb;simp[AOper.ww],hz⟩,by simp,fun b hb=>by cases hb;simp[AOper.ww]⟩
   ·cases he
  ·cases he
 ·split at he
  ·split at he
   ·cases he
    exact⟨⟨fun b k hb=>by cases hb;simp[AOper.news],fun b hb=>by cases hb;simp[AOper.ww],fun b k hb=>by cases hb;simp[AOper.ww],hz⟩,by simp,fun b hb=>by cases hb;simp[AOper.ww]⟩
   ·cases he
  ·cases he
 ·split at he
  ·split at he
   ·cases he
    exact⟨⟨fun b k hb=>by cases hb;simp[AOper.news],fun b hb=>by cases hb;simp[AOper.ww],fun b k hb=>by cases hb;simp[AOper.ww],hz⟩,fun b k hb=>by cases hb;simp[AOper.news],fun b hb=>by cases hb;simp[AOper.ww]⟩
   ·cases he
  ·cases he
 ·cases he
theorem geff_none {s:St} {bs:List Nat} {nid:Nat} {fz:List Nat} {r:AV} {h:Hp} {e:Eff} (he:geff s bs nid fz r h=.ok e):e.nw2=none∧e.rm2=none:=by
 unfold geff at he
 (repeat' split at he)<;>cases he<;>exact⟨rfl,rfl⟩
theorem val_none {x:AV} {e:Eff} (h:val x=.ok e):e.nw2=none∧e.rm2=none:=by unfold Am.val at h;cases h;exact⟨rfl,rfl⟩
theorem valO_none {x:Option AV} {e:Eff} (h:valO x=.ok e):e.nw2=none∧e.rm2=none:=by
 cases x with
 | none=>cases h
 | some y=>unfold Am.valO at h;cases h;exact⟨rfl,rfl⟩
theorem eff_none2 {C:Cs} {o:AOper} {s:St} {e:Eff} (h:eff C s o=.ok e) (hn:∀ f args bs a b,o.op≠.gcal2 f args bs a b):e.nw2=none∧e.rm2=none:=by
 obtain⟨d,op,gd,fp⟩:=o
 cases op
 case gcal2 f args bs a b=>exact absurd rfl (hn f args bs a b)
 all_goals
  simp only[eff] at h
  (repeat' split at h)<;>first
   | exact val_none h
   | exact valO_none h
   | exact geff_none h
   | (cases h;exact⟨rfl,rfl⟩)
   | (cases h;done)
theorem eff_shape {C:Cs} {o:AOper} {s:St} {e:Eff} (h:eff C s o=.ok e):Shape o e:=by
 obtain⟨d,op,gd,fp⟩:=o
 cases op<;>simp only[eff] at h
 case alloc z =>
  split at h
  ·cases h;exact⟨by simp[AOper.news],by simp,by simp,by simp⟩
  ·cases h
 case box x n =>
  split at h
  ·split at h
   ·cases h;exact⟨by simp[AOper.news],by simp,by simp,by simp⟩
   ·cases h
  ·cases h
 case mkrow =>
  split at h
  ·cases h;exact⟨by simp[AOper.news],by simp,by simp,by simp⟩
  ·cases h
 case nil0=>cases h;exact⟨by simp[AOper.news],by simp,by simp,by simp⟩
 case store x n v =>
  split at h
  ·split at h
   ·rename_i k vs hk _
    split at h
    ·cases h;exact⟨by simp,by simp,fun b k hb=>by cases hb;exact blkAt_mem hk,by simp⟩
    ·cases h
   ·cases h
  ·cases h
 case call f args =>
  split at h
  ·rename_i vs fz hp
   split at h
   ·cases h;exact⟨by simp,by simp,by simp,pureVs_mem _ _ _ hp⟩
   ·cases h
  ·cases h
 case frz x =>
  split at h
  ·rename_i v fz hp
   cases h
   exact⟨by simp,by simp,by simp,pureVs_mem (s:=s) [opv s x] [v] fz (by simp[pureVs,mapO,hp])⟩
  ·cases h
 case gcal2 f args bs n1 n2 =>
  split at h
  ·rename_i vs fz hg hp hgb
   split at h
   ·split at h
    ·split at h
     ·exact (geff2_shape (mapO_mem (fun x y fz=>garg_mem x y fz) _ _ _ hp) h).toShape
     ·cases h
    ·cases h
   ·cases h
  ·cases h
 case gcall f args bs nid =>
  split at h
  ·rename_i vs fz hg hp hgb
   split at h
   ·split at h
    ·split at h
     ·exact geff_shape (mapO_mem (fun x y fz=>garg_mem x y fz) _ _ _ hp) h
     ·cases h
    ·cases h
   ·cases h
  ·cases h
 case dyn x args =>
  split at h
  ·split at h
   ·split at h
    ·rename_i vs fz hp
     split at h
     ·cases h;exact⟨by simp,by simp,by simp,pureVs_mem _ _ _ hp⟩
     ·cases h
    ·cases h
   ·cases h
  ·cases h
 case app id ws x y sz =>
  split at h
  ·split at h
   ·split at h
    ·exact Shape.val h
    ·split at h
     ·cases h;exact⟨by simp[AOper.news],by simp,by simp,by simp⟩
     ·cases h
   ·split at h
    ·rename_i hws
     split at h
     ·rename_i k hk
      split at h
      ·cases h;exact⟨by simp[AOper.news],fun b hb=>by cases hb;simpa [AOper.ww] using hws,by simp,by simp⟩
      ·cases h
     ·cases h
    ·cases h
   ·cases h
  ·cases h
 case mks =>
  split at h
  ·split at h
   ·cases h;exact⟨by simp[AOper.news],by simp,by simp,by simp⟩
   ·cases h
  ·cases h
 case clear x sz z =>
  split at h
  ·split at h
   ·rename_i k hk
    split at h
    ·cases h;exact⟨by simp,by simp,fun b k hb=>by cases hb;exact blkAt_mem hk,by simp⟩
    ·cases h
   ·cases h
  ·cases h;exact⟨by simp,by simp,by simp,by simp⟩
  ·cases h
 case clo f cs =>
  split at h
  ·rename_i vs fz hp
   cases h;exact⟨by simp,by simp,by simp,caps_mem _ _ _ hp⟩
  ·cases h
 case mkmap =>
  split at h
  ·cases h;exact⟨by simp[AOper.news],by simp,by simp,by simp⟩
  ·cases h
 case mrng x =>
  (repeat' split at h)<;>cases h<;>exact⟨by simp[AOper.news],by simp,by simp,by simp⟩
 case ment x k z =>
  (repeat' split at h)<;>cases h<;>exact⟨by simp,by simp,fun b k hb=>by cases hb;exact mapAt_mem ‹_›,by simp⟩
 case aent x k m z =>
  (repeat' split at h)<;>cases h<;>exact⟨by simp,by simp,fun b k hb=>by cases hb;exact mapAt_mem ‹_›,by simp⟩
 case mset x k z =>
  (repeat' split at h)<;>cases h<;>exact⟨by simp,by simp,fun b k hb=>by cases hb;exact mapAt_mem ‹_›,by simp⟩
 case mupd x k z =>
  (repeat' split at h)<;>cases h<;>exact⟨by simp,by simp,fun b k hb=>by cases hb;exact mapAt_mem ‹_›,by simp⟩
 case alcT t z =>
  split at h
  ·cases h;exact⟨by simp[AOper.news],by simp,by simp,by simp⟩
  ·cases h
 case aps id ws x y t =>
  split at h
  ·split at h
   ·split at h
    ·cases h;exact⟨by simp[AOper.news],by simp,by simp,by simp⟩
    ·cases h
   ·split at h
    ·rename_i hws
     split at h
     ·rename_i k hk
      split at h
      ·cases h;exact⟨by simp[AOper.news],fun b hb=>by cases hb;simpa [AOper.ww] using hws,by simp,by simp⟩
      ·cases h
     ·cases h
    ·cases h
   ·cases h
  ·cases h
 case cck f x =>
  (repeat' split at h)<;>cases h<;>first|exact⟨by simp,by simp,fun b k hb=>by cases hb;exact blkAt_mem ‹_›,by simp⟩|exact⟨by simp,by simp,by simp,by simp⟩
 case bst f x =>
  (repeat' split at h)<;>cases h<;>exact⟨by simp,fun b hb=>by cases hb;exact blkAt_mem ‹blkAt s fp _ _=some _›,by simp,by simp⟩
 case no=>cases h
 all_goals first
  | exact Shape.val h
  | exact Shape.valO h
  | ((repeat' split at h)<;>first|exact Shape.val h|exact Shape.valO h|cases h)
theorem eff_shape2 {C:Cs} {o:AOper} {s:St} {e:Eff} (h:eff C s o=.ok e):Shape2 o e:=by
 have h1:=eff_shape h
 by_cases hg:∃ f args bs a b,o.op=.gcal2 f args bs a b
 ·obtain⟨f,args,bs,n1,n2,ho⟩:=hg
  obtain⟨d,op,gd,fp⟩:=o
  simp only at ho
  subst ho
  simp only[eff] at h
  split at h
  ·rename_i vs fz hg hp hgb
   split at h
   ·split at h
    ·split at h
     ·exact geff2_shape (mapO_mem (fun x y fz=>garg_mem x y fz) _ _ _ hp) h
     ·cases h
    ·cases h
   ·cases h
  ·cases h
 ·have h2:=eff_none2 h (fun f args bs a b e=>hg ⟨f,args,bs,a,b,e⟩)
  exact⟨h1,fun b k hb=>(by rw[h2.1] at hb;cases hb),fun b hb=>(by rw[h2.2] at hb;cases hb)⟩
structure Eqv (s s':St):Prop where
 t:∀ n,look s'.t n=look s.t n
 h:∀ b,hlook s'.h b=hlook s.h b
 g:∀ b,s'.g b=s.g b
theorem Eqv.refl (s:St):Eqv s s:=⟨fun _=>rfl,fun _=>rfl,fun _=>rfl⟩
theorem Eqv.trans {a b c:St} (h:Eqv a b) (k:Eqv b c):Eqv a c:=⟨fun n=>(k.t n).trans (h.t n),fun n=>(k.h n).trans (h.h n),fun n=>(k.g n).trans (h.g n)⟩
theorem Eqv.symm {a b:St} (h:Eqv a b):Eqv b a:=⟨fun n=>(h.t n).symm,fun n=>(h.h n).symm,fun n=>(h.g n).symm⟩
theorem Eqv.like {o:AOper} {s s':St} (h:Eqv s s'):Like o s s' :=
 ⟨fun n _=>h.t n,fun b _=>h.g b,fun b _=>by
  rw[h.h b]
  cases hlook s.h b with
  | none=>exact .inr ⟨rfl,rfl⟩
  | some k=>exact .inl ⟨k,k,rfl,rfl,rfl,rfl,fun _=>rfl⟩⟩
theorem look_putO (d:Option Nat) (v:Option AV) (t:Env) (n:Nat):look (putO d v t) n=if d=some n then v.getD .junk else look t n:=by
 cases d with
 | none=>simp[putO]
 | some d =>
  cases v<;>simp only[putO,look_put,Option.some.injEq,Option.getD]
theorem hlook_away {o:AOper} {e:Eff} (hs:Shape2 o e) (h:Hp) {b:Nat} (hb:b ∉ o.wr):hlook (appH e h) b=(hlook h b).map fun k=>if e.fz.contains b then { k with frz:=true } else k:=by
 have h0:∀ k,e.nw2≠some (b,k):=fun k hk=>hb (by unfold AOper.wr;exact List.mem_append_left _ (hs.nw2 b k hk))
 have h1:∀ k,e.nw≠some (b,k):=fun k hk=>hb (by unfold AOper.wr;exact List.mem_append_left _ (hs.nw b k hk))
 have h2:∀ k,e.st≠some (b,k):=fun k hk=>hb (by unfold AOper.wr;exact List.mem_append_right _ (hs.st b k hk))
 have h3:e.rm≠some b:=fun hk=>hb (by unfold AOper.wr;exact List.mem_append_right _ (hs.rm b hk))
 have h4:e.rm2≠some b:=fun hk=>hb (by unfold AOper.wr;exact List.mem_append_right _ (hs.rm2 b hk))
 have e3:hlook (appH { e with nw2:=none,nw:=none,st:=none } h) b=(hlook h b).map fun k=>if e.fz.contains b then { k with frz:=true } else k:=by
  rw[hlook_appH3,if_neg h4,if_neg h3]
 have e2:hlook (appH { e with nw2:=none,nw:=none } h) b=(hlook h b).map fun k=>if e.fz.contains b then { k with frz:=true } else k:=by
  rw[hlook_appH2]
  cases hst:e.st with
  | none=>exact e3
  | some p =>
   obtain⟨b',k⟩:=p
   simp only[]
   rw[if_neg (fun e'=>h2 k (by rw[hst,e']))]
   exact e3
 have e1:hlook (appH { e with nw2:=none } h) b=(hlook h b).map fun k=>if e.fz.contains b then { k with frz:=true } else k:=by
  rw[hlook_appH]
  cases hn:e.nw with
  | none=>exact e2
  | some p =>
   obtain⟨b',k⟩:=p
   simp only[]
   rw[if_neg (fun e'=>h1 k (by rw[hn,e']))]
   exact e2
 rw[hlook_appH0]
 cases hn:e.nw2 with
 | none=>exact e1
 | some p =>
  obtain⟨b',k⟩:=p
  simp only[]
  rw[if_neg (fun e'=>h0 k (by rw[hn,e']))]
  exact e1
theorem hlook_own (e:Eff) {h h':Hp} {b:Nat} (hh:hlook h' b=hlook h b):hlook (appH e h') b=hlook (appH e h) b:=by
 have h3:hlook (appH { e with nw2:=none,nw:=none,st:=none } h') b=hlook (appH { e with nw2:=none,nw:=none,st:=none } h) b:=by rw[hlook_appH3,hlook_appH3,hh]
 have h2:hlook (appH { e with nw2:=none,nw:=none } h') b=hlook (appH { e with nw2:=none,nw:=none } h) b:=by rw[hlook_appH2,hlook_appH2 e h,h3]
 have h1:hlook (appH { e with nw2:=none } h') b=hlook (appH { e with nw2:=none } h) b:=by rw[hlook_appH,hlook_appH e h,h2]
 rw[hlook_appH0,hlook_appH0 e h,h1]
theorem appG_away {o:AOper} {e:Eff} (hs:Shape2 o e) (g:Nat→Nat) {b:Nat} (hb:b ∉ o.news):appG e g b=g b:=by
 unfold appG
 have key:(match e.nw with|some (b,_)=>bump b g|none=>g) b=g b:=by
  cases hn:e.nw with
  | none=>rfl
  | some p =>
   obtain⟨b',k⟩:=p
   simp only[bump]
   rw[if_neg (fun e':b=b'=>hb (e'▸hs.nw b' k hn))]
 cases hn:e.nw2 with
 | none=>exact key
 | some p =>
  obtain⟨b',k⟩:=p
  show bump b' _ b=g b
  unfold bump
  rw[if_neg (fun e':b=b'=>hb (e'▸hs.nw2 b' k hn))]
  exact key
theorem appG_own (e:Eff) {g g':Nat→Nat} {b:Nat} (h:g' b=g b):appG e g' b=appG e g b:=by
 unfold appG
 cases e.nw with
 | none =>
  cases e.nw2 with
  | none=>exact h
  | some p=>obtain⟨b',k⟩:=p;simp only[bump,h]
 | some p =>
  obtain⟨b',k⟩:=p
  cases e.nw2 with
  | none=>simp only[bump,h]
  | some p=>obtain⟨c',k'⟩:=p;simp only[bump,h]
theorem app_eqv {d:Option Nat} {e:Eff} {s s':St} (h:Eqv s s'):Eqv (app d e s) (app d e s') :=
 ⟨fun n=>by simp only[app,look_putO,h.t],fun b=>hlook_own e (h.h b),fun b=>appG_own e (h.g b)⟩
theorem evOper_eqv {C:Cs} {o:AOper} {s s' s1:St} (h:Eqv s s') (he:evOper C s o=.ok s1):∃ s1',evOper C s' o=.ok s1'∧Eqv s1 s1':=by
 unfold evOper at he ⊢
 have hl:=eff_like (C:=C) (Eqv.like (o:=o) h)
 have doit:∀ r,ap o.d s r=.ok s1→∃ s1',ap o.d s' r=.ok s1'∧Eqv s1 s1':=by
  intro r hr
  cases r with
  | ok e=>simp only[ap,Res.ok.injEq] at hr ⊢;subst hr;exact⟨_,rfl,app_eqv h⟩
  | fail=>cases hr
  | vac=>cases hr
 split at he
 ·rw[hl];exact doit _ he
 ·rename_i g want hg
  rw[h.t]
  split at he
  ·rename_i t ht
   split at he
   ·rename_i hw
    simp only[if_pos hw,hl]
    exact doit _ he
   ·rename_i hw
    simp only[if_neg hw]
    cases he
    exact⟨_,rfl,fun n=>by simp only[look_putO,h.t],h.h,h.g⟩
  ·cases he
   exact⟨_,rfl,fun n=>by simp only[look_putO,h.t],h.h,h.g⟩
  ·cases he
theorem evOps_eqv {C:Cs}:∀(l:List AOper) {s s' s1:St},Eqv s s'→evOps C l s=.ok s1→∃ s1',evOps C l s'=.ok s1'∧Eqv s1 s1'
 | [],s,s',s1,h,he=>by simp only[evOps,Res.ok.injEq] at he;subst he;exact⟨s',rfl,h⟩
 | o::l,s,s',s1,h,he=>by
  simp only[evOps] at he ⊢
  split at he
  ·rename_i s2 h2
   obtain⟨s2',h3,h4⟩:=evOper_eqv h h2
   rw[h3]
   exact evOps_eqv l h4 he
  ·cases he
  ·cases he
theorem disj_spec {a b:List Nat} (h:disj a b=true):∀ x∈a,x ∉ b:=by
 intro x hx hb
 unfold disj at h
 rw[List.all_eq_true] at h
 have:=h x hx
 simp at this
 exact this hb
def passes (v:AV) (want:Bool):Bool :=
 match v with
 | .bool t=>decide (t≠want)
 | .und=>true
 | _=>false
theorem evOper_cases {C:Cs} {o:AOper} {s s1:St} (h:evOper C s o=.ok s1) :
  (∃ e,eff C s o=.ok e∧s1=app o.d e s∧(∀ g want,o.gd=some (g,want)→look s.t g=.bool want)) ∨
  (s1=⟨putO o.d (some .und) s.t,s.h,s.g⟩∧∃ g want t,o.gd=some (g,want)∧look s.t g=t∧passes t want=true):=by
 unfold evOper at h
 have ap_ok:∀ r,ap o.d s r=.ok s1→∃ e,r=.ok e∧s1=app o.d e s:=by
  intro r hr
  cases r with
  | ok e=>simp only[ap,Res.ok.injEq] at hr;exact⟨e,rfl,hr.symm⟩
  | fail=>cases hr
  | vac=>cases hr
 split at h
 ·rename_i hg
  obtain⟨e,h1,h2⟩:=ap_ok _ h
  exact .inl ⟨e,h1,h2,fun g want hgw=>by rw[hg] at hgw;cases hgw⟩
 ·rename_i g want hg
  split at h
  ·rename_i t ht
   split at h
   ·rename_i hw
    obtain⟨e,h1,h2⟩:=ap_ok _ h
    exact .inl ⟨e,h1,h2,fun g' want' hgw=>by rw[hg] at hgw;cases hgw;rw[ht,hw]⟩
   ·rename_i hw
    cases h
    exact .inr ⟨rfl,g,want,_,hg,ht,by simpa [passes] using hw⟩
  ·rename_i ht
   cases h
   exact .inr ⟨rfl,g,want,_,hg,ht,rfl⟩
  ·cases h
theorem evOper_of_eff {C:Cs} {o:AOper} {s:St} {e:Eff} (h:eff C s o=.ok e) (hg:∀ g want,o.gd=some (g,want)→look s.t g=.bool want):evOper C s o=.ok (app o.d e s):=by
 unfold evOper
 cases hgd:o.gd with
 | none=>simp only[h,ap]
 | some p =>
  obtain⟨g,want⟩:=p
  simp only[hg g want hgd,if_true,h,ap]
theorem evOper_skip {C:Cs} {o:AOper} {s:St} {g:Nat} {want:Bool} {t:AV} (h:o.gd=some (g,want)) (ht:look s.t g=t) (hne:passes t want=true):evOper C s o=.ok ⟨putO o.d (some .und) s.t,s.h,s.g⟩:=by
 unfold evOper
 cases t<;>simp[passes] at hne
 ·simp only[h,ht,if_neg hne]
 ·simp only[h,ht]
structure Apart (x y:AOper) (s s1:St):Prop where
 t:∀ n∈y.op.slots++y.guards,look s1.t n=look s.t n
 like:Like y s s1
theorem apart_of {C:Cs} {x y:AOper} {s s1:St} (hc:commute x y=true) (h:evOper C s x=.ok s1):Apart x y s s1:=by
 simp only[commute,Bool.and_eq_true] at hc
 obtain⟨⟨⟨⟨c1,c2⟩,c3⟩,c4⟩,c5⟩:=hc
 have d1:=disj_spec c1
 have d4:=disj_spec c4
 have d5:=disj_spec c5
 have hslot:∀ v n,n∈y.op.slots++y.guards→look (putO x.d v s.t) n=look s.t n:=by
  intro v n hn
  rw[look_putO]
  split
  ·rename_i hd
   exact absurd hn (d1 n (by simp[dstL,hd]))
  ·rfl
 rcases evOper_cases h with⟨e,he,rfl,_⟩|⟨rfl,_⟩
 ·have hs:=eff_shape2 he
  refine⟨fun n hn=>hslot _ n hn,fun n hn=>hslot _ n (List.mem_append_left _ hn),fun b hb=>?_,fun b hb=>?_⟩
  ·refine appG_away hs _ (fun hbn=>?_)
   have h1:b∈x.wr:=by unfold AOper.wr;exact List.mem_append_left _ hbn
   refine d4 b h1 ?_
   rcases List.mem_append.1 hb with hb|hb
   ·exact List.mem_append_left _ hb
   ·exact List.mem_append_right _ (by unfold AOper.wr;exact List.mem_append_left _ hb)
  ·have hnb:b ∉ x.wr:=fun hbx=>d4 b hbx (List.mem_append_left _ hb)
   show (∃ k k',hlook s.h b=some k∧hlook (appH e s.h) b=some k'∧_)∨(hlook s.h b=none∧hlook (appH e s.h) b=none)
   rw[hlook_away hs s.h hnb]
   cases hlook s.h b with
   | none=>exact .inr ⟨rfl,rfl⟩
   | some k =>
    refine .inl ⟨k,_,rfl,rfl, ?_, ?_,fun hw=>?_⟩
    ·split<;>rfl
    ·split<;>rfl
    ·split
     ·rename_i hf
      exfalso
      have hbf:b∈x.fp:=hs.fz b (by simpa using hf)
      refine d5 b ?_ (List.mem_append_left _ hbf)
      unfold AOper.wr
      exact List.mem_append_right _ hw
     ·rfl
 ·exact⟨fun n hn=>hslot (some .und) n hn,fun n hn=>hslot (some .und) n (List.mem_append_left _ hn),fun b hb=>rfl,fun b hb=>by
   cases hlook s.h b with
   | none=>exact .inr ⟨rfl,rfl⟩
   | some k=>exact .inl ⟨k,k,rfl,rfl,rfl,rfl,fun _=>rfl⟩⟩
theorem commute_symm {x y:AOper} (h:commute x y=true):commute y x=true:=by
 simp only[commute,Bool.and_eq_true] at h ⊢
 obtain⟨⟨⟨⟨c1,c2⟩,c3⟩,c4⟩,c5⟩:=h
 refine⟨⟨⟨⟨c2,c1⟩, ?_⟩,c5⟩,c4⟩
 unfold disj at c3 ⊢
 rw[List.all_eq_true] at c3 ⊢
 intro b hb
 simp only[Bool.not_eq_true',List.contains_eq_mem,decide_eq_false_iff_not] at c3 ⊢
 intro ha
 exact c3 b ha hb
theorem step_apart {C:Cs} {x y:AOper} {s s1 s2:St} (hA:Apart x y s s1) (h:evOper C s1 y=.ok s2) :
  ∃ u:St→St,evOper C s y=.ok (u s)∧s2=u s1∧((∃ e,Shape2 y e∧u=app y.d e)∨u=fun s=>⟨putO y.d (some .und) s.t,s.h,s.g⟩):=by
 rcases evOper_cases h with⟨e,he,rfl,hg⟩|⟨rfl,g,want,t,hg,ht,hne⟩
 ·have he':eff C s y=.ok e:=by rw[← eff_like hA.like];exact he
  refine⟨app y.d e,evOper_of_eff he' (fun g want hgw=>?_),rfl,.inl ⟨e,eff_shape2 he',rfl⟩⟩
  rw[← hA.t g (List.mem_append_right _ (by simp[AOper.guards,hgw]))]
  exact hg g want hgw
 ·refine⟨fun s=>⟨putO y.d (some .und) s.t,s.h,s.g⟩,evOper_skip hg ?_ hne,rfl,.inr rfl⟩
  rw[← hA.t g (List.mem_append_right _ (by simp[AOper.guards,hg]))]
  exact ht
theorem swap {C:Cs} {x y:AOper} {s s1 s2:St} (hc:commute x y=true) (hx:evOper C s x=.ok s1) (hy:evOper C s1 y=.ok s2) :
  ∃ s1',evOper C s y=.ok s1'∧∃ s2',evOper C s1' x=.ok s2'∧Eqv s2 s2':=by
 obtain⟨u,hu1,rfl,hu2⟩:=step_apart (apart_of hc hx) hy
 have hA:=apart_of (commute_symm hc) hu1
 -- x from the state that y has left
 have hx2:∃ v:St→St,evOper C (u s) x=.ok (v (u s))∧s1=v s∧((∃ e,Shape2 x e∧v=app x.d e)∨v=fun s=>⟨putO x.d (some .und) s.t,s.h,s.g⟩):=by
  rcases evOper_cases hx with⟨e,he,rfl,hg⟩|⟨rfl,g,want,t,hg,ht,hne⟩
  ·have he':eff C (u s) x=.ok e:=by rw[eff_like hA.like];exact he
   refine⟨app x.d e,evOper_of_eff he' (fun g want hgw=>?_),rfl,.inl ⟨e,eff_shape2 he,rfl⟩⟩
   rw[hA.t g (List.mem_append_right _ (by simp[AOper.guards,hgw]))]
   exact hg g want hgw
  ·refine⟨fun s=>⟨putO x.d (some .und) s.t,s.h,s.g⟩,evOper_skip hg ?_ hne,rfl,.inr rfl⟩
   rw[hA.t g (List.mem_append_right _ (by simp[AOper.guards,hg]))]
   exact ht
 obtain⟨v,hv1,rfl,hv2⟩:=hx2
 refine⟨u s,hu1,v (u s),hv1, ?_⟩
 simp only[commute,Bool.and_eq_true] at hc
 obtain⟨⟨⟨⟨c1,c2⟩,c3⟩,c4⟩,c5⟩:=hc
 have d3:=disj_spec c3
 have d4:=disj_spec c4
 have d5:=disj_spec c5
 have hdd:∀ n,x.d=some n→y.d≠some n:=fun n hn hm=>d3 n (by simp[dstL,hn]) (by simp[dstL,hm])
 have tcomm:∀ vx vy t n,look (putO x.d vx (putO y.d vy t)) n=look (putO y.d vy (putO x.d vx t)) n:=by
  intro vx vy t n
  simp only[look_putO]
  by_cases h1:x.d=some n
  ·rw[if_pos h1,if_pos h1,if_neg (hdd n h1)]
  ·rw[if_neg h1,if_neg h1]
 rcases hu2 with⟨ey,sy,rfl⟩|rfl<;>rcases hv2 with⟨ex,sx,rfl⟩|rfl
 ·refine⟨fun n=>tcomm _ _ _ n,fun b=>?_,fun b=>?_⟩
  ·show hlook (appH ex (appH ey s.h)) b=hlook (appH ey (appH ex s.h)) b
   by_cases hbx:b∈x.wr
   ·have hby:b ∉ y.wr:=fun h=>d4 b hbx (List.mem_append_right _ h)
    have hbf:b ∉ y.fp:=fun h=>d4 b hbx (List.mem_append_left _ h)
    have hnf:ey.fz.contains b=false:=by
     simp only[List.contains_eq_mem,decide_eq_false_iff_not]
     exact fun h=>hbf (sy.fz b h)
    rw[hlook_away sy (appH ex s.h) hby]
    have:hlook (appH ey s.h) b=hlook s.h b:=by
     rw[hlook_away sy s.h hby]
     simp only[hnf,Bool.false_eq_true,if_false]
     cases hlook s.h b<;>rfl
    rw[hlook_own ex this]
    simp only[hnf,Bool.false_eq_true,if_false]
    cases hlook (appH ex s.h) b<;>rfl
   ·by_cases hby:b∈y.wr
    ·have hbf:b ∉ x.fp:=fun h=>d5 b hby (List.mem_append_left _ h)
     have hnf:ex.fz.contains b=false:=by
      simp only[List.contains_eq_mem,decide_eq_false_iff_not]
      exact fun h=>hbf (sx.fz b h)
     rw[hlook_away sx (appH ey s.h) hbx]
     have:hlook (appH ex s.h) b=hlook s.h b:=by
      rw[hlook_away sx s.h hbx]
      simp only[hnf,Bool.false_eq_true,if_false]
      cases hlook s.h b<;>rfl
     rw[hlook_own ey this]
     simp only[hnf,Bool.false_eq_true,if_false]
     cases hlook (appH ey s.h) b<;>rfl
    ·rw[hlook_away sx _ hbx,hlook_away sy _ hby,hlook_away sy _ hby,hlook_away sx _ hbx]
     cases hlook s.h b with
     | none=>rfl
     | some k =>
      simp only[Option.map_some]
      congr 1
      split<;>split<;>rfl
  ·show appG ex (appG ey s.g) b=appG ey (appG ex s.g) b
   by_cases hbx:b∈x.news
   ·have hby:b ∉ y.news:=fun h=>d4 b (by unfold AOper.wr;exact List.mem_append_left _ hbx) (List.mem_append_right _ (by unfold AOper.wr;exact List.mem_append_left _ h))
    rw[appG_away sy _ hby]
    exact appG_own ex (appG_away sy _ hby)
   ·rw[appG_away sx _ hbx]
    exact (appG_own ey (appG_away sx _ hbx)).symm
 ·exact⟨fun n=>tcomm (some .und) ey.v s.t n,fun b=>rfl,fun b=>rfl⟩
 ·exact⟨fun n=>tcomm ex.v (some .und) s.t n,fun b=>rfl,fun b=>rfl⟩
 ·exact⟨fun n=>tcomm (some .und) (some .und) s.t n,fun b=>rfl,fun b=>rfl⟩
def pairOk (x y:AOper):Bool :=
 match x.op,y.op with
 | .aget (.t a) (.t b) n (.int .i64 z),.aent (.t a') (.t b') n' (.int .i64 z') =>
  x.gd.isNone&&(y.gd.isNone&&(decide (a=a')&&(decide (b=b')&&(decide (n=n')&&(decide (z=z')&&(decide (x.fp=y.fp)&&(disj (dstL x) [a,b]&&(disj (dstL y) [a,b]&&disj (dstL x) (dstL y)))))))))
 | _,_=>false
theorem mfindA_push (a:List Int) (ks:List AV) (z:AV):∀(cs:List AV) (i:Nat),cs.length % 2=0→mfindA a cs i=none→mfindA a (cs++[.agg ks,z]) i=none∨∃ j,mfindA a (cs++[.agg ks,z]) i=some (j,z)
 | [],i,_,_=>by
  simp only[List.nil_append,mfindA]
  split
  ·exact .inr ⟨i,rfl⟩
  ·exact .inl rfl
 | [c],i,h,_=>by simp at h
 | c::v::cs,i,h,hn=>by
  cases c
  case agg k =>
   simp only[mfindA,List.cons_append] at hn ⊢
   split at hn
   ·cases hn
   ·rename_i hk
    rw[if_neg hk]
    exact mfindA_push a ks z cs (i+1) (by simp at h;omega) hn
  all_goals exact .inl (by simp[mfindA])
theorem look_away {d:Option Nat} {v:Option AV} {t:Env} {n:Nat} (h:∀ m,d=some m→m≠n):look (putO d v t) n=look t n:=by
 rw[look_putO,if_neg (fun e=>h n e rfl)]
theorem aOk_push {n:Nat} {cs ks:List AV} {z:AV} (h:aOk n cs=true) (hk:ks.length=n):aOk n (cs++[.agg ks,z])=true:=by
 cases cs with
 | nil=>simp[aOk,hk]
 | cons c cs=>cases c<;>simp_all [aOk]
theorem isIt_push {n:Nat} {cs ks:List AV} {z:AV} (h:aOk n cs=true):isIt (cs++[.agg ks,z])=false:=by
 cases cs with
 | nil=>rfl
 | cons c cs=>cases c<;>simp_all [aOk,isIt]
theorem ints_len:∀(ks:List AV) (a:List Int),ints ks=some a→ks.length=a.length
 | ks,a,h=>by rw[ints_map ks a h];simp
theorem swap_pair {C:Cs} {x y:AOper} {s s1 s2:St} (hc:pairOk x y=true) (hx:evOper C s x=.ok s1) (hy:evOper C s1 y=.ok s2) :
  ∃ s1',evOper C s y=.ok s1'∧∃ s2',evOper C s1' x=.ok s2'∧Eqv s2 s2':=by
 obtain⟨dx,ox,gx,fx⟩:=x
 obtain⟨dy,oy,gy,fy⟩:=y
 unfold pairOk at hc
 simp only[] at hc
 split at hc
 case h_2=>cases hc
 rename_i a b n z a' b' n' z'
 simp only[Bool.and_eq_true,decide_eq_true_eq,Option.isNone_iff_eq_none] at hc
 obtain⟨rfl,rfl,rfl,rfl,rfl,rfl,rfl,d1,d2,d3⟩:=hc
 have dx1:∀ m,dx=some m→m≠a∧m≠b:=fun m hm=>by
  have:=disj_spec d1 m (by simp[dstL,hm])
  simp at this
  exact this
 have dy1:∀ m,dy=some m→m≠a∧m≠b:=fun m hm=>by
  have:=disj_spec d2 m (by simp[dstL,hm])
  simp at this
  exact this
 have dxy:∀ m,dx=some m→dy≠some m:=fun m hm hm2=>disj_spec d3 m (by simp[dstL,hm]) (by simp[dstL,hm2])
 have tcomm:∀ vx vy t n,look (putO dx vx (putO dy vy t)) n=look (putO dy vy (putO dx vx t)) n:=by
  intro vx vy t n
  simp only[look_putO]
  by_cases h1:dx=some n
  ·rw[if_pos h1,if_pos h1,if_neg (dxy n h1)]
  ·rw[if_neg h1,if_neg h1]
 obtain⟨t,h,g⟩:=s
 simp only[evOper] at hx hy ⊢
 cases hex:eff C ⟨t,h,g⟩ ⟨dx,.aget (.t a) (.t b) n (.int .i64 z),none,fx⟩ with
 | fail=>rw[hex] at hx;cases hx
 | vac=>rw[hex] at hx;cases hx
 | ok ex =>
  rw[hex] at hx
  cases hx
  unfold eff at hex
  simp only[opv] at hex
  split at hex
  case h_2=>cases hex
  rename_i mb mg ks ha hb
  split at hex
  case h_2=>cases hex
  rename_i q ns hm hn
  split at hex
  case isFalse=>cases hex
  rename_i hq
  have:=val_ok hex
  subst this
  have l1:look (putO dx (some (mgetA ns q.cs (.int .i64 z))) t) a=.mp mb mg:=by rw[look_away (fun m hm=>(dx1 m hm).1),ha]
  have l2:look (putO dx (some (mgetA ns q.cs (.int .i64 z))) t) b=.agg ks:=by rw[look_away (fun m hm=>(dx1 m hm).2),hb]
  have hm1:mapAt ⟨putO dx (some (mgetA ns q.cs (.int .i64 z))) t,h,g⟩ fx mb mg=some q:=hm
  cases hey:eff C (app dx { v:=some (mgetA ns q.cs (.int .i64 z)) } ⟨t,h,g⟩) ⟨dy,.aent (.t a) (.t b) n (.int .i64 z),none,fx⟩ with
  | fail=>rw[hey] at hy;cases hy
  | vac=>rw[hey] at hy;cases hy
  | ok ey =>
   rw[hey] at hy
   cases hy
   have hey0:=hey
   unfold eff at hey
   simp only[opv,app,appH,appG,l1,l2,hm1,hn] at hey
   have hey2:eff C ⟨t,h,g⟩ ⟨dy,.aent (.t a) (.t b) n (.int .i64 z),none,fx⟩=.ok ey:=by
    unfold eff
    simp only[opv,ha,hb,hm,hn]
    exact hey
   split at hey
   case isFalse=>cases hey
   rename_i hq2
   obtain⟨lv,lz⟩:=mapAt_live hm
   have hcf:fx.contains mb=true∧g mb=mg:=by
    unfold liveAt at lv
    split at lv
    ·rename_i h1
     split at lv
     ·rename_i h2
      exact⟨h1,h2⟩
     ·cases lv
    ·cases lv
   -- what is there behind the entry
   have fin:∀(vy:Option AV) (q':Blk),ey={ v:=vy,st:=some (mb,q') }→q'.esz=mapTag→isIt q'.cs=false→aOk n q'.cs=true→mgetA ns q'.cs (.int .i64 z)=mgetA ns q.cs (.int .i64 z) →
     ∃ s1',ap dy ⟨t,h,g⟩ (eff C ⟨t,h,g⟩ ⟨dy,.aent (.t a) (.t b) n (.int .i64 z),none,fx⟩)=.ok s1'∧∃ s2',ap dx s1' (eff C s1' ⟨dx,.aget (.t a) (.t b) n (.int .i64 z),none,fx⟩)=.ok s2'∧Eqv (app dy ey (app dx { v:=some (mgetA ns q.cs (.int .i64 z)) } ⟨t,h,g⟩)) s2':=by
    rintro vy q' rfl e1 e2 e3 e4
    refine⟨_,by rw[hey2];rfl, ?_⟩
    have m1:mapAt ⟨putO dy vy t,hput h mb q',g⟩ fx mb mg=some q':=by
     unfold mapAt liveAt
     simp only[hcf.1,hcf.2,if_true,hlook_hput,e1,e2]
     simp
    have e5:eff C (app dy { v:=vy,st:=some (mb,q') } ⟨t,h,g⟩) ⟨dx,.aget (.t a) (.t b) n (.int .i64 z),none,fx⟩=.ok { v:=some (mgetA ns q.cs (.int .i64 z)) }:=by
     unfold eff
     simp only[opv,app,appH,appG]
     rw[look_away (fun m hm=>(dy1 m hm).1),look_away (fun m hm=>(dy1 m hm).2),ha,hb]
     simp only[m1,hn]
     rw[if_pos ⟨e3,hq.2⟩,e4]
     rfl
    refine⟨_,by rw[e5];rfl, ?_⟩
    exact⟨fun m=>tcomm (some (mgetA ns q.cs (.int .i64 z))) vy t m,fun _=>rfl,fun _=>rfl⟩
   split at hey
   ·cases hey
    refine fin _ q rfl lz ?_ hq.1 rfl
    exact (mapAt_live' hm).2.2
   ·rename_i hnone
    cases hey
    refine fin _ _ rfl lz (isIt_push hq.1) (aOk_push hq.1 (by rw[ints_len ks ns hn];exact hq.2)) ?_
    unfold mgetA
    rw[hnone]
    rcases mfindA_push ns ks (.int .i64 z) q.cs 0 hq2.2.2.2 hnone with e|⟨j,e⟩
    ·simp only[e]
    ·simp only[e]
def comm2 (x y:AOper):Bool:=commute x y||pairOk x y
theorem swap2 {C:Cs} {x y:AOper} {s s1 s2:St} (hc:comm2 x y=true) (hx:evOper C s x=.ok s1) (hy:evOper C s1 y=.ok s2) :
  ∃ s1',evOper C s y=.ok s1'∧∃ s2',evOper C s1' x=.ok s2'∧Eqv s2 s2':=by
 unfold comm2 at hc
 rw[Bool.or_eq_true] at hc
 rcases hc with hc|hc
 ·exact swap hc hx hy
 ·exact swap_pair hc hx hy
theorem ahead {C:Cs} {y:AOper} {l2:List AOper}:∀(l1:List AOper) {s sf:St},(∀ x∈l1,comm2 x y=true)→evOps C (l1++y::l2) s=.ok sf →
  ∃ s1,evOper C s y=.ok s1∧∃ sf',evOps C (l1++l2) s1=.ok sf'∧Eqv sf sf'
 | [],s,sf,_,h=>by
  simp only[List.nil_append,evOps] at h ⊢
  split at h
  ·rename_i s1 h1
   exact⟨s1,h1,sf,h,Eqv.refl _⟩
  ·cases h
  ·cases h
 | x::l1,s,sf,hc,h=>by
  simp only[List.cons_append,evOps] at h
  split at h
  ·rename_i sx hx
   obtain⟨s1,h1,sf',h2,h3⟩:=ahead l1 (fun z hz=>hc z (List.mem_cons_of_mem _ hz)) h
   obtain⟨s1',h4,s2',h5,h6⟩:=swap2 (hc x (by simp)) hx h1
   refine⟨s1',h4, ?_⟩
   obtain⟨sf'',h7,h8⟩:=evOps_eqv (l1++l2) h6 h2
   refine⟨sf'', ?_,h3.trans h8⟩
   simp only[List.cons_append,evOps,h5]
   exact h7
  ·cases h
  ·cases h
end Go.Am
namespace Go.Am
set_option linter.unusedSimpArgs false
set_option linter.unusedVariables false
open Go.RowKit
def fieldFits (P:Program) (t:TypeId) (f off:Nat) (k:Field→Bool):Bool :=
 match P.underlying t with
 | some (.struct fs)=>match fs[f]? with
  | some fd=>decide (fd.offset=off)&&k fd
  | none=>false
 | _=>false
def tSome (P:Program) (t:TypeId):Bool:=match P.info? t with|some i=>decide (0<i.size)|none=>false
def isAggT (P:Program) (t:TypeId):Bool:=match P.underlying t with|some (.struct _)|some (.array _ _)=>true|_=>false
def mOp (P:Program) (o:Op) (a:AOp):Bool :=
 match a with
 | .mv y=>match o with
  | .move x|.assign x=>mOpd x y
  | _=>false
 | .frz y=>match o with
  | .move x|.assign x=>mOpd x y
  | _=>false
 | .gcall f' xs _ _=>match o with
  | .call { callee:=.value (.func f),args,argTypes:=_ }=>decide (f=f')&&mOpds args.toList xs
  | _=>false
 | .gcal2 f' xs _ _ _=>match o with
  | .call { callee:=.value (.func f),args,argTypes:=_ }=>decide (f=f')&&mOpds args.toList xs
  | _=>false
 | .nil0 _ _=>match o with
  | .move x|.assign x=>mOpd x (.c .nils)
  | _=>false
 | .pick c' x' y'=>match o with
  | .pick c x y=>mOpd c c'&&(mOpd x x'&&mOpd y y')
  | _=>false
 | .alloc z=>match o with
  | .alloc t=>tZero P t z
  | _=>false
 | .mkmap=>match o with
  | .makeMap _ none=>true
  | _=>false
 | .mget x' y' z=>match o with
  | .lookup t x y false=>mOpd x x'&&(mOpd y y'&&tMap P t z)
  | _=>false
 | .ment x' y' z=>match o with
  | .mapEntry t x y=>mOpd x x'&&(mOpd y y'&&tMap P t z)
  | _=>false
 | .aget x' y' n z=>match o with
  | .lookup t x y false=>mOpd x x'&&(mOpd y y'&&tMapA P t n z)
  | _=>false
 | .aent x' y' n z=>match o with
  | .mapEntry t x y=>mOpd x x'&&(mOpd y y'&&tMapA P t n z)
  | _=>false
 | .mset x' y' v'=>match o with
  | .entryStore _ x y v=>mOpd x x'&&(mOpd y y'&&mOpd v v')
  | _=>false
 | .mupd x' y' v'=>match o with
  | .mapUpdate t x y v=>mOpd x x'&&(mOpd y y'&&(mOpd v v'&&(tMap P t (.int .i64 0)||tMap P t (.bool false))))
  | _=>false
 | .mlen x'=>match o with
  | .call { callee:=.builtin .len,args,argTypes }=>(match args.toList,argTypes.toList with
   | [x],[t]=>mOpd x x'&&(match P.underlying t with|some (.map _ _)=>true|_=>false)
   | _,_=>false)
  | _=>false
 | .mrng x'=>match o with
  | .range t x=>mOpd x x'&&(match P.underlying t with|some (.map _ _)=>true|_=>false)
  | _=>false
 | .entry x'=>match o with
  | .entry x=>mOpd x x'
  | _=>false
 | .box x' _=>match o with
  | .box _ x=>mOpd x x'
  | _=>false
 | .build z qs=>match o with
  | .build t ps=>tZero P t z&&(match P.underlying t with
   | some (.struct fs)=>(match placesOf P fs.toList with|some pl=>mParts (pl[·]?) ps.toList qs|none=>false)
   | some (.array _ e)=>(match P.info? e with|some ie=>mParts (fun i=>some (i*ie.size,ie.size)) ps.toList qs|none=>false)
   | _=>false)
  | _=>false
 | .mkrow _ len' sz z qs=>match o with
  | .buildSlice t len ps=>decide (len=len')&&(tSlice P t sz&&(tSliceZ P t z&&(mParts (fun i=>some (i*sz,sz)) ps.toList qs&&decide (len*sz≤16777216))))
  | _=>false
 | .load n agg x'=>match o with
  | .load t x=>mOpd x x'&&tIs P t n agg
  | _=>false
 | .store x' n y'=>match o with
  | .store t x y=>mOpd x x'&&(mOpd y y'&&(match P.info? t with|some i=>decide (i.size=n)|none=>false))
  | _=>false
 | .fad x' off=>match o with
  | .fieldAddr t x f=>mOpd x x'&&fieldFits P t f off (fun fd=>tSome P fd.type)
  | _=>false
 | .iad x' y' sz len=>match o with
  | .indexAddr t x y=>mOpd x x'&&(mOpd y y'&&(match P.underlying t with
   | some (.array len' e)=>decide (len'=len)&&(match P.info? e with|some i=>decide (i.size=sz)|none=>false)
   | _=>false))
  | _=>false
 | .ias x' y' sz=>match o with
  | .indexAddr t x y=>mOpd x x'&&(mOpd y y'&&(match P.underlying t with
   | some (.slice e)=>(match P.info? e with|some i=>decide (i.size=sz)|none=>false)
   | _=>false))
  | _=>false
 | .fld x' off n agg=>match o with
  | .field t x f=>mOpd x x'&&fieldFits P t f off (fun fd=>tIs P fd.type n agg)
  | _=>false
 | .idx x' y' sz len agg=>match o with
  | .index t x y=>mOpd x x'&&(mOpd y y'&&(match P.underlying t with
   | some (.array len' e)=>decide (len'=len)&&tIs P e sz agg
   | _=>false))
  | _=>false
 | .bin op' x' y'=>match o with
  | .binOp op _ x y _=>decide (op=op')&&(mOpd x x'&&mOpd y y')
  | _=>false
 | .eqa neg ks x' y'=>match o with
  | .binOp op t x y _=>decide (op=if neg then .neq else .eql)&&(mOpd x x'&&(mOpd y y'&&(decide (flatT P 20 t=some ks)&&(!P.eqGuardType P.depth t&&isAggT P t))))
  | _=>false
 | .eqb neg x' y'=>match o with
  | .binOp op t x y _=>decide (op=if neg then .neq else .eql)&&(mOpd x x'&&(mOpd y y'&&(match P.underlying t with|some .bool=>true|_=>false)))
  | _=>false
 | .un op' x'=>match o with
  | .unOp op _ x=>decide (op=op')&&mOpd x x'
  | _=>false
 | .conv k x'=>match o with
  | .convert t t' x=>mOpd x x'&&((match P.underlying t' with|some (.int k')=>decide (k'=k)|_=>false)&&(match P.underlying t with|some (.int _)=>true|_=>false))
  | _=>false
 | .ext x' i'=>match o with
  | .extract x i=>mOpd x x'&&decide (i=i')
  | _=>false
 | .call f' xs=>match o with
  | .call { callee:=.value (.func f),args,argTypes:=_ }=>decide (f=f')&&(decide (f<sBase)&&mOpds args.toList xs)
  | _=>false
 | .dyn x' xs=>match o with
  | .call { callee:=.value x,args,argTypes:=_ }=>mOpd x x'&&mOpds args.toList xs
  | _=>false
 | .app _ _ x' y' sz=>match o with
  | .call { callee:=.builtin .append,args,argTypes }=>(match args.toList,argTypes.toList with
   | [x,y],[t,t']=>decide (t=t')&&(mOpd x x'&&(mOpd y y'&&tSlice P t sz))
   | _,_=>false)
  | _=>false
 | .len x'=>match o with
  | .call { callee:=.builtin .len,args,argTypes }=>(match args.toList,argTypes.toList with
   | [x],[t]=>mOpd x x'&&(match P.underlying t with|some (.slice _)=>true|_=>false)
   | _,_=>false)
  | _=>false
 | .mnmx mx x' y'=>match o with
  | .call { callee:=.builtin b,args,argTypes:=_ }=>decide (b=if mx then .max else .min)&&(match args.toList with
   | [x,y]=>mOpd x x'&&mOpd y y'
   | _=>false)
  | _=>false
 | .mks _ x' sz z=>match o with
  | .makeSlice t x y=>mOpd x x'&&(mOpd y x'&&(tSlice P t sz&&tSliceZ P t z))
  | _=>false
 | .sl x' lo hi sz=>match o with
  | .slice t x lo' hi' none=>mOpd x x'&&(mOpdO lo' lo&&(mOpdO hi' hi&&tSlice P t sz))
  | _=>false
 | .clear x' sz z=>match o with
  | .call { callee:=.builtin .clear,args,argTypes }=>(match args.toList,argTypes.toList with
   | [x],[t]=>mOpd x x'&&(tSlice P t sz&&(tSliceZ P t z&&z.all AV.isCell))
   | _,_=>false)
  | _=>false
 | .clo f' xs=>match o with
  | .makeFunc (.func f) first ys=>decide (f=f')&&(first.isEmpty&&mOpds ys.toList xs)
  | _=>false
 | .chk x'=>match o with
  | .nilCheck x=>mOpd x x'
  | _=>false
 | .str k xs=>mStr P o k xs
 | .ssl x' lo hi=>match o with
  | .slice t x lo' hi' none=>mOpd x x'&&(mOpdO lo' lo&&(mOpdO hi' hi&&isStr P t))
  | _=>false
 | .b2s x'=>match o with
  | .convert t t' x=>mOpd x x'&&(isBytes P t&&isStr P t')
  | _=>false
 | .sla x' lo hi sz len=>match o with
  | .slice t x lo' hi' none=>mOpd x x'&&(mOpdO lo' lo&&(mOpdO hi' hi&&(match P.underlying t with
   | some (.array len' e)=>decide (len'=len)&&(match P.info? e with|some i=>decide (i.size=sz)|none=>false)
   | _=>false)))
  | _=>false
 | .alcT t' z=>match o with
  | .alloc t=>decide (t=t')&&tZero P t z
  | _=>false
 | .aps _ _ x' y' e=>match o with
  | .call { callee:=.builtin .append,args,argTypes }=>(match args.toList,argTypes.toList with
   | [x,y],[t,u]=>mOpd x x'&&(mOpd y y'&&(tByte P t e&&tNotInt P u))
   | _,_=>false)
  | _=>false
 | .cck f' x'=>match o with
  | .call { callee:=.value (.func f),args,argTypes:=_ }=>decide (f=f')&&(decide (f'<250000)&&(match args.toList with
   | [x]=>mOpd x x'
   | _=>false))
  | _=>false
 | .bst f' x'=>match o with
  | .call { callee:=.value (.func f),args,argTypes:=_ }=>decide (f=f')&&(decide (f'<250000)&&(match args.toList with
   | [x]=>mOpd x x'
   | _=>false))
  | _=>false
 | .no=>true
section
variable {P:Program} {N:Nat} {o:Oper} {ao:AOper} {C:Cs}
theorem mOp_sound (hC:∀ f,Contract P f (C f)) (hd:o.dst=ao.d) (hN:∀ n,ao.d=some n→n<N) (h:mOp P o.op ao.op=true):Sim P N o C ao:=by
 obtain⟨dst,op,type,pos,after,guard⟩:=o
 obtain⟨d,aop,gd,fp⟩:=ao
 simp only[] at hd h hN
 cases aop<;>unfold mOp at h<;>simp only[] at h
 case mv y =>
  split at h
  ·exact sim_mv hd hN _ _ (.inl rfl) rfl h
  ·exact sim_mv hd hN _ _ (.inr rfl) rfl h
  ·cases h
 case nil0 id sz =>
  split at h
  ·exact sim_nil0 hd hN _ _ _ (.inl rfl) rfl h
  ·exact sim_nil0 hd hN _ _ _ (.inr rfl) rfl h
  ·cases h
 case pick c x y =>
  split at h
  ·simp only[Bool.and_eq_true] at h
   exact sim_pick hd hN _ _ _ _ _ _ rfl rfl h.1 h.2.1 h.2.2
  ·cases h
 case alloc z =>
  split at h
  ·exact sim_alloc hd hN _ _ rfl rfl h
  ·cases h
 case box x n =>
  split at h
  ·exact sim_box hd hN _ _ _ _ rfl rfl h
  ·cases h
 case build z qs =>
  split at h
  ·rename_i t ps
   simp only[Bool.and_eq_true] at h
   obtain⟨h1,h2⟩:=h
   split at h2
   ·rename_i fs hu
    split at h2
    ·rename_i pl hpl
     exact sim_build_struct hd hN t ps z qs rfl rfl h1 fs hu pl hpl h2
    ·cases h2
   ·rename_i k e hu
    split at h2
    ·rename_i ie hie
     exact sim_build_array hd hN t ps z qs rfl rfl h1 k e hu ie hie h2
    ·cases h2
   ·cases h2
  ·cases h
 case mkrow id len sz z qs =>
  split at h
  ·rename_i t len' ps
   simp only[Bool.and_eq_true,decide_eq_true_eq] at h
   obtain⟨rfl,h1,h2,h3,h4⟩:=h
   exact sim_mkrow hd hN t _ ps id sz z qs rfl rfl h1 h2 h3 h4
  ·cases h
 case load n agg x =>
  split at h
  ·simp only[Bool.and_eq_true] at h
   exact sim_load hd hN _ _ _ _ _ rfl rfl h.1 h.2
  ·cases h
 case store x n y =>
  split at h
  ·simp only[Bool.and_eq_true] at h
   obtain⟨h1,h2,h3⟩:=h
   split at h3
   ·rename_i i hi
    exact sim_store hd hN _ _ _ _ _ _ rfl rfl h1 h2 i hi (by simpa using h3)
   ·cases h3
  ·cases h
 case fad x off =>
  split at h
  ·simp only[Bool.and_eq_true] at h
   obtain⟨h1,h2⟩:=h
   unfold fieldFits at h2
   split at h2
   ·rename_i fs hu
    split at h2
    ·rename_i fd hf
     simp only[Bool.and_eq_true,decide_eq_true_eq,tSome] at h2
     obtain⟨h3,h4⟩:=h2
     split at h4
     ·rename_i i hi
      exact sim_fad hd hN _ _ _ _ _ rfl rfl h1 fs hu fd hf h3 i hi (by simpa using h4)
     ·cases h4
    ·cases h2
   ·cases h2
  ·cases h
 case iad x y sz len =>
  split at h
  ·simp only[Bool.and_eq_true] at h
   obtain⟨h1,h2,h3⟩:=h
   split at h3
   ·rename_i len' e hu
    simp only[Bool.and_eq_true,decide_eq_true_eq] at h3
    obtain⟨rfl,h4⟩:=h3
    split at h4
    ·rename_i i hi
     exact sim_iad hd hN _ _ _ _ _ _ _ rfl rfl h1 h2 e hu i hi (by simpa using h4)
    ·cases h4
   ·cases h3
  ·cases h
 case ias x y sz =>
  split at h
  ·simp only[Bool.and_eq_true] at h
   obtain⟨h1,h2,h3⟩:=h
   split at h3
   ·rename_i e hu
    split at h3
    ·rename_i i hi
     exact sim_ias hd hN _ _ _ _ _ _ rfl rfl h1 h2 e hu i hi (by simpa using h3)
    ·cases h3
   ·cases h3
  ·cases h
 case fld x off n agg =>
  split at h
  ·simp only[Bool.and_eq_true] at h
   obtain⟨h1,h2⟩:=h
   unfold fieldFits at h2
   split at h2
   ·rename_i fs hu
    split at h2
    ·rename_i fd hf
     simp only[Bool.and_eq_true,decide_eq_true_eq] at h2
     exact sim_fld hd hN _ _ _ _ _ _ _ rfl rfl h1 fs hu fd hf h2.1 h2.2
    ·cases h2
   ·cases h2
  ·cases h
 case idx x y sz len agg =>
  split at h
  ·simp only[Bool.and_eq_true] at h
   obtain⟨h1,h2,h3⟩:=h
   split at h3
   ·rename_i len' e hu
    simp only[Bool.and_eq_true,decide_eq_true_eq] at h3
    obtain⟨rfl,h4⟩:=h3
    exact sim_idx hd hN _ _ _ _ _ _ _ _ rfl rfl h1 h2 e hu h4
   ·cases h3
  ·cases h
 case bin op x y =>
  split at h
  ·simp only[Bool.and_eq_true,decide_eq_true_eq] at h
   obtain⟨rfl,h1,h2⟩:=h
   exact sim_bin hd hN _ _ _ _ _ _ _ rfl rfl h1 h2
  ·cases h
 case eqa neg ks x y =>
  split at h
  ·simp only[Bool.and_eq_true,decide_eq_true_eq,Bool.not_eq_true'] at h
   obtain⟨rfl,h1,h2,h3,h4,h5⟩:=h
   refine sim_eqa hd hN neg _ _ _ _ _ _ ks rfl rfl h1 h2 h3 h4 ?_
   unfold isAggT at h5
   split at h5
   ·rename_i fs hu;rw[hu];trivial
   ·rename_i k e hu;rw[hu];trivial
   ·cases h5
  ·cases h
 case eqb neg x y =>
  split at h
  ·simp only[Bool.and_eq_true,decide_eq_true_eq] at h
   obtain⟨rfl,h1,h2,h3⟩:=h
   split at h3
   ·rename_i hu
    exact sim_eqb hd hN neg _ _ _ _ _ _ rfl rfl h1 h2 hu
   ·cases h3
  ·cases h
 case un op x =>
  split at h
  ·simp only[Bool.and_eq_true,decide_eq_true_eq] at h
   obtain⟨rfl,h1⟩:=h
   exact sim_un hd hN _ _ _ _ rfl rfl h1
  ·cases h
 case conv k x =>
  split at h
  ·simp only[Bool.and_eq_true] at h
   obtain⟨h1,h2,h3⟩:=h
   split at h2
   ·rename_i k' hu
    simp only[decide_eq_true_eq] at h2
    subst h2
    split at h3
    ·rename_i k0 hu0
     exact sim_conv hd hN _ _ _ _ _ rfl rfl h1 hu ⟨k0,hu0⟩
    ·cases h3
   ·cases h2
  ·cases h
 case ext x i =>
  split at h
  ·simp only[Bool.and_eq_true,decide_eq_true_eq] at h
   obtain⟨h1,rfl⟩:=h
   exact sim_ext hd hN _ _ _ rfl rfl h1
  ·cases h
 case call f xs =>
  split at h
  ·simp only[Bool.and_eq_true,decide_eq_true_eq] at h
   obtain⟨rfl,hlt,h1⟩:=h
   exact sim_call hC hd hN _ hlt _ _ _ rfl rfl h1
  ·cases h
 case frz y =>
  split at h
  ·exact sim_frz hd hN _ _ (.inl rfl) rfl h
  ·exact sim_frz hd hN _ _ (.inr rfl) rfl h
  ·cases h
 case gcall f xs bs nid =>
  split at h
  ·simp only[Bool.and_eq_true,decide_eq_true_eq] at h
   obtain⟨rfl,h1⟩:=h
   exact sim_gcall hC hd hN _ _ _ _ _ _ rfl rfl h1
  ·cases h
 case gcal2 f xs bs n1 n2 =>
  split at h
  ·simp only[Bool.and_eq_true,decide_eq_true_eq] at h
   obtain⟨rfl,h1⟩:=h
   exact sim_gcal2 hC hd hN _ _ _ _ _ _ _ rfl rfl h1
  ·cases h
 case dyn x xs =>
  split at h
  ·simp only[Bool.and_eq_true] at h
   exact sim_dyn hC hd hN _ _ _ _ _ rfl rfl h.1 h.2
  ·cases h
 case app id ws x y sz =>
  split at h
  ·rename_i args ts
   split at h
   ·rename_i x0 y0 t t' ha ht
    simp only[Bool.and_eq_true,decide_eq_true_eq] at h
    obtain⟨rfl,h1,h2,h3⟩:=h
    have e1:args=#[x0,y0]:=by apply Array.ext';simpa using ha
    have e2:ts=#[t,t]:=by apply Array.ext';simpa using ht
    subst e1;subst e2
    exact sim_app hd hN t x0 y0 x y id ws sz rfl rfl h1 h2 h3
   ·cases h
  ·cases h
 case mlen x =>
  split at h
  ·rename_i args ts
   split at h
   ·rename_i x0 t ha ht
    simp only[Bool.and_eq_true] at h
    obtain⟨h1,h2⟩:=h
    have e1:args=#[x0]:=by apply Array.ext';simpa using ha
    have e2:ts=#[t]:=by apply Array.ext';simpa using ht
    subst e1;subst e2
    split at h2
    ·rename_i k e hu
     exact sim_mlen hd hN t x0 x rfl rfl h1 k e hu
    ·cases h2
   ·cases h
  ·cases h
 case mrng x =>
  split at h
  ·rename_i t x0
   simp only[Bool.and_eq_true] at h
   obtain⟨h1,h2⟩:=h
   split at h2
   ·rename_i k e hu
    exact sim_mrng hd hN t x0 x rfl rfl h1 k e hu
   ·cases h2
  ·cases h
 case entry x =>
  split at h
  ·exact sim_entry hd hN _ x rfl rfl h
  ·cases h
 case len x =>
  split at h
  ·rename_i args ts
   split at h
   ·rename_i x0 t ha ht
    simp only[Bool.and_eq_true] at h
    obtain⟨h1,h2⟩:=h
    have e1:args=#[x0]:=by apply Array.ext';simpa using ha
    have e2:ts=#[t]:=by apply Array.ext';simpa using ht
    subst e1;subst e2
    split at h2
    ·rename_i e hu
     exact sim_len hd hN t x0 x rfl rfl h1 e hu
    ·cases h2
   ·cases h
  ·cases h
 case mnmx mx x y =>
  split at h
  ·rename_i b args ts
   simp only[Bool.and_eq_true,decide_eq_true_eq] at h
   obtain⟨rfl,h1⟩:=h
   split at h1
   ·rename_i x0 y0 ha
    simp only[Bool.and_eq_true] at h1
    have e1:args=#[x0,y0]:=by apply Array.ext';simpa using ha
    subst e1
    exact sim_mnmx hd hN mx ts x0 y0 x y rfl rfl h1.1 h1.2
   ·cases h1
  ·cases h
 case mks id x sz z =>
  split at h
  ·simp only[Bool.and_eq_true] at h
   obtain⟨h1,h2,h3,h4⟩:=h
   exact sim_mks hd hN _ _ _ _ _ _ _ rfl rfl h1 h2 h3 h4
  ·cases h
 case sl x lo hi sz =>
  split at h
  ·simp only[Bool.and_eq_true] at h
   obtain⟨h1,h2,h3,h4⟩:=h
   exact sim_sl hd hN _ _ _ _ _ _ _ _ rfl rfl h1 h2 h3 h4
  ·cases h
 case clear x sz z =>
  split at h
  ·rename_i args ts
   split at h
   ·rename_i x0 t ha ht
    simp only[Bool.and_eq_true] at h
    obtain⟨h1,h2,h3,h4⟩:=h
    have e1:args=#[x0]:=by apply Array.ext';simpa using ha
    have e2:ts=#[t]:=by apply Array.ext';simpa using ht
    subst e1;subst e2
    exact sim_clear hd hN t x0 x sz z rfl rfl h1 h2 h3 h4
   ·cases h
  ·cases h
 case clo f xs =>
  split at h
  ·rename_i f' first ys
   simp only[Bool.and_eq_true,decide_eq_true_eq] at h
   obtain⟨rfl,h1,h2⟩:=h
   have e1:first=#[]:=by simpa using h1
   subst e1
   exact sim_clo hd hN _ _ _ rfl rfl h2
  ·cases h
 case chk x =>
  split at h
  ·exact sim_chk hd hN _ _ rfl rfl h
  ·cases h

 case mkmap =>
  split at h
  ·exact sim_mkmap hd hN _ rfl rfl
  ·cases h
 case str k xs=>exact sim_str hd hN k xs rfl h
 case ssl x lo hi =>
  split at h
  ·simp only[Bool.and_eq_true] at h
   exact sim_ssl hd hN _ _ _ _ _ _ _ rfl rfl h.1 h.2.1 h.2.2.1 h.2.2.2
  ·cases h
 case b2s x =>
  split at h
  ·simp only[Bool.and_eq_true] at h
   exact sim_b2s hd hN _ _ _ _ rfl rfl h.1 h.2.1 h.2.2
  ·cases h
 case sla x lo hi sz len =>
  split at h
  ·simp only[Bool.and_eq_true] at h
   obtain⟨h1,h2,h3,h4⟩:=h
   split at h4
   ·rename_i len' e hu
    simp only[Bool.and_eq_true,decide_eq_true_eq] at h4
    obtain⟨rfl,h4⟩:=h4
    split at h4
    ·rename_i i hi
     exact sim_sla hd hN _ _ _ _ _ _ _ _ _ rfl rfl h1 h2 h3 e hu i hi (by simpa using h4)
    ·cases h4
   ·cases h4
  ·cases h
 case alcT t z =>
  split at h
  ·simp only[Bool.and_eq_true,decide_eq_true_eq] at h
   obtain⟨rfl,h1⟩:=h
   exact sim_alcT hd hN _ _ rfl rfl h1
  ·cases h
 case aps id ws x y e =>
  split at h
  ·rename_i args ts
   split at h
   ·rename_i x0 y0 t u ha ht
    simp only[Bool.and_eq_true] at h
    obtain⟨h1,h2,h3,h4⟩:=h
    have e1:args=#[x0,y0]:=by apply Array.ext';simpa using ha
    have e2:ts=#[t,u]:=by apply Array.ext';simpa using ht
    subst e1;subst e2
    exact sim_aps hd hN t u x0 y0 x y id ws e rfl rfl h1 h2 h3 h4
   ·cases h
  ·cases h
 case cck f x =>
  split at h
  ·rename_i f' args ts
   simp only[Bool.and_eq_true,decide_eq_true_eq] at h
   obtain⟨rfl,hlt,h1⟩:=h
   split at h1
   ·rename_i x0 ha
    have e1:args=#[x0]:=by apply Array.ext';simpa using ha
    subst e1
    exact sim_cck hC hd hN _ hlt _ _ _ rfl rfl h1
   ·cases h1
  ·cases h
 case bst f x =>
  split at h
  ·rename_i f' args ts
   simp only[Bool.and_eq_true,decide_eq_true_eq] at h
   obtain⟨rfl,hlt,h1⟩:=h
   split at h1
   ·rename_i x0 ha
    have e1:args=#[x0]:=by apply Array.ext';simpa using ha
    subst e1
    exact sim_bst hC hd hN _ hlt _ _ _ rfl rfl h1
   ·cases h1
  ·cases h
 case no =>
  intro w0 I0 I ρ s a w e K Q h he hK
  simp only[eff] at he
  cases he
 case mget x y z =>
  split at h
  ·simp only[Bool.and_eq_true] at h
   exact sim_mget hd hN _ _ _ _ _ _ rfl rfl h.1 h.2.1 h.2.2
  ·cases h
 case ment x y z =>
  split at h
  ·simp only[Bool.and_eq_true] at h
   exact sim_ment hd hN _ _ _ _ _ _ rfl rfl h.1 h.2.1 h.2.2
  ·cases h
 case aget x y n z =>
  split at h
  ·simp only[Bool.and_eq_true] at h
   exact sim_aget hd hN _ _ _ _ _ _ _ rfl rfl h.1 h.2.1 h.2.2
  ·cases h
 case aent x y n z =>
  split at h
  ·simp only[Bool.and_eq_true] at h
   exact sim_aent hd hN _ _ _ _ _ _ _ rfl rfl h.1 h.2.1 h.2.2
  ·cases h
 case mset x y v =>
  split at h
  ·simp only[Bool.and_eq_true] at h
   exact sim_mset hd hN _ _ _ _ _ _ _ rfl rfl h.1 h.2.1 h.2.2
  ·cases h
 case mupd x y v =>
  split at h
  ·simp only[Bool.and_eq_true,Bool.or_eq_true] at h
   rcases h.2.2.2 with h4|h4
   ·exact sim_mupd hd hN _ _ _ _ _ _ _ _ rfl rfl h.1 h.2.1 h.2.2.1 h4
   ·exact sim_mupd hd hN _ _ _ _ _ _ _ _ rfl rfl h.1 h.2.1 h.2.2.1 h4
  ·cases h
theorem no_vac {w0 : Base} {I0 I : Nat → Prop} {ρ : Nat → Place} {s : St} {a : Act} {w : World} (hm : mOp P o.op ao.op = true) (h : R w0 I0 N I ρ s a w) : eff C s ao ≠ .vac := by
  obtain ⟨d, aop, gd, fp⟩ := ao
  cases aop
  case len x =>
    unfold mOp at hm
    simp only [] at hm
    split at hm
    · split at hm
      · simp only [Bool.and_eq_true] at hm
        exact len_novac _ x rfl hm.1 h
      · cases hm
    · cases hm
  case gcall f xs bs nid =>
    intro he
    simp only [eff] at he
    repeat' split at he
    all_goals first
      | (cases he; done)
      | (unfold geff at he; repeat' split at he
         all_goals cases he)
  case gcal2 f xs bs n1 n2 =>
    intro he
    simp only [eff] at he
    repeat' split at he
    all_goals first
      | (cases he; done)
      | (unfold geff2 at he; repeat' split at he
         all_goals cases he)
  all_goals
    intro he
    simp only [eff, val] at he
    first
      | (cases he; done)
      | ((repeat' split at he) <;> first | (cases he; done) | (revert he; unfold valO; split <;> intro he <;> cases he) | (revert he; unfold val; intro he; cases he))
      | (revert he; unfold valO; split <;> intro he <;> cases he)
end
end Go.Am
namespace Go.Am
set_option linter.unusedSimpArgs false
set_option linter.unusedVariables false
open Go.RowKit
def mGuard (N:Nat) (ops:Array Oper) (o:Oper) (a:AOper):Bool :=
 match o.guard,a.gd with
 | none,none=>true
 | some (j,want),some (g,want')=>decide ((ops[j]?).bind (·.dst)=some g)&&(decide (g<N)&&decide (want=want'))
 | _,_=>false
def mOper (P:Program) (N:Nat) (ops:Array Oper) (o:Oper) (a:AOper):Bool :=
 decide (o.dst=a.d)&&((match a.d with|some d=>decide (d<N)|none=>true)&&(mGuard N ops o a&&mOp P o.op a.op))
def mOpers (P:Program) (N:Nat) (ops:Array Oper):List Oper→List AOper→Bool
 | [],[]=>true
 | o::os,a::as=>mOper P N ops o a&&mOpers P N ops os as
 | _,_=>false
section
variable {P:Program} {w0:Base} {I0:Nat→Prop} {N:Nat} {I:Nat→Prop} {ρ:Nat→Place} {s:St} {a:Act} {w:World} {C:Cs} {ops:Array Oper}
theorem mOper_spec {o:Oper} {ao:AOper} (h:mOper P N ops o ao=true):o.dst=ao.d∧(∀ n,ao.d=some n→n<N)∧mGuard N ops o ao=true∧mOp P o.op ao.op=true:=by
 unfold mOper at h
 simp only[Bool.and_eq_true,decide_eq_true_eq] at h
 refine⟨h.1,fun n hn=>?_,h.2.2.1,h.2.2.2⟩
 have:=h.2.1
 rw[hn] at this
 simpa using this
theorem R.eqv (h:R w0 I0 N I ρ s a w) {s':St} (he:Eqv s s'):R w0 I0 N I ρ s' a w:=by
 have hg:s'.g=s.g:=funext he.g
 have hm:modeOf s' ρ=modeOf s ρ:=by
  unfold modeOf
  congr 2
  funext b g
  simp only[aliveA,he.g,he.h]
 refine { defers:=h.defers,tab:=h.tab,size:=h.size,below:=h.below,imm:=h.imm,old:=h.old,new:=h.new,kept:=fun b hb hg'=>h.kept b hb (by rw[← hg'];exact (he.g b).symm),tm:=fun t=>?_,hp:=fun b k hk=>?_,inj:=fun b b' k k' r σ σ' hk hk'=>h.inj b b' k k' r σ σ' (by rw[← he.h];exact hk) (by rw[← he.h];exact hk') }
 ·rw[hm,he.t];exact h.tm t
 ·rw[hm];exact h.hp b k (by rw[← he.h];exact hk)
theorem oper_wp (hC:∀ f,Contract P f (C f)) {i:Nat} {o:Oper} {ao:AOper} {s1:St} {K:Act→World→Prop} {Q:Exit→Act→World→Prop}
  (hm:mOper P N ops o ao=true) (ho:ops[i]? = some o) (h:R w0 I0 N I ρ s a w) (he:evOper C s ao=.ok s1)
  (hK:∀ I' ρ' a' w',R w0 I0 N I' ρ' s1 a' w'→K a' w'):wpOp P ops Q i K a w:=by
 obtain⟨hd,hN,hg,hop⟩:=mOper_spec hm
 have hsim:=mOp_sound hC hd hN hop
 unfold wpOp
 simp only[ho]
 have hok:∀ r,ap ao.d s r=.ok s1→∃ e,r=.ok e∧s1=app ao.d e s:=by
  intro r hr
  cases r with
  | ok e=>simp only[ap] at hr;cases hr;exact⟨e,rfl,rfl⟩
  | fail=>cases hr
  | vac=>cases hr
 unfold evOper at he
 unfold mGuard at hg
 split at hg
 ·rename_i h1 h2
  rw[h2] at he
  simp only[] at he
  obtain⟨e,he1,rfl⟩:=hok _ he
  rw[if_pos (by simp[Region.wanted,h1])]
  exact .inl (hsim w0 I0 I ρ s a w e K Q h he1 hK)
 ·rename_i j want g want' h1 h2
  simp only[Bool.and_eq_true,decide_eq_true_eq] at hg
  obtain⟨hj,hgN,rfl⟩:=hg
  rw[h2] at he
  simp only[] at he
  have hy:∀ t,look s.t g=.bool t→yielded ops a.tmps j=some t:=by
   intro t ht
   have h3:=h.tm g
   rw[ht] at h3
   have h4:=VR_bool h3
   have hlt:g<a.tmps.size:=by rw[h.size];exact hgN
   unfold yielded
   rw[hj]
   simp only[Option.bind_some]
   simp only[Array.getD,hlt,dif_pos] at h4
   rw[Array.getElem?_eq_getElem hlt]
   have h5:a.tmps[g]=.bool t:=h4
   rw[h5]
  split at he
  ·rename_i t ht
   split at he
   ·rename_i hw
    obtain⟨e,he1,rfl⟩:=hok _ he
    rw[if_pos (by simp[Region.wanted,h1,hy t ht,hw])]
    exact .inl (hsim w0 I0 I ρ s a w e K Q h he1 hK)
   ·rename_i hw
    cases he
    rw[if_neg (by simp[Region.wanted,h1,hy t ht,hw])]
    rw[hd]
    exact hK I ρ _ _ (h.putO hN (fun y hy=>by cases hy;simp[VR]))
  ·rename_i ht
   cases he
   have hu:yielded ops a.tmps j≠some want:=by
    have h3:=h.tm g
    rw[ht] at h3
    have h4:a.tmps.getD g undef=undef:=by simpa [VR] using h3
    have hlt:g<a.tmps.size:=by rw[h.size];exact hgN
    unfold yielded
    rw[hj]
    simp only[Option.bind_some]
    simp only[Array.getD,hlt,dif_pos] at h4
    rw[Array.getElem?_eq_getElem hlt]
    have h5:a.tmps[g]=undef:=h4
    rw[h5]
    simp[undef]
   rw[if_neg (by simp[Region.wanted,h1,hu])]
   rw[hd]
   exact hK I ρ _ _ (h.putO hN (fun y hy=>by cases hy;simp[VR]))
  ·cases he
 ·cases hg
theorem wp_some {o:Oper} {K:Act→World→Prop} (h:o.wp P a w K (fun _ _ _=>False)):∃ a' w',K a' w':=by
 unfold Oper.wp at h
 generalize (execOp a.eval o).run P w=r at h
 cases r with
 | ok n w' =>
  cases n<;>simp only[Oper.upon] at h
  case value=>exact⟨_,_,h⟩
  case skip=>exact⟨_,_,h⟩
  case defer=>exact⟨_,_,h⟩
  case enter =>
   obtain⟨e,w'',fr,hR,_⟩:=h []
   cases e with
   | returned v=>exact⟨_,_,hR⟩
   | panicked c=>exact hR.elim
   | outgrown=>obtain⟨_,_,hf⟩:=hR;exact hf.elim
  case row =>
   obtain⟨v,w'',hR,_⟩:=h default []
   exact⟨_,_,hR⟩
 | halt x w'=>cases x<;>simp only[Oper.upon] at h
theorem wpOp_some {i:Nat} {o:Oper} (ho:ops[i]? = some o) {K:Act→World→Prop} (h:wpOp P ops (fun _ _ _=>False) i K a w):∃ a' w',K a' w':=by
 unfold wpOp at h
 simp only[ho] at h
 split at h
 ·rcases h with h|⟨_,_,_,h⟩
  ·exact wp_some h
  ·exact h.elim
 ·exact⟨_,_,h⟩
structure Fits (P:Program) (N:Nat) (ops:Array Oper) (l:List AOper):Prop where
 len:ops.size=l.length
 m:∀(i:Nat) (o:Oper) (ao:AOper),ops[i]? = some o→l[i]? = some ao→mOper P N ops o ao=true
theorem mOpers_spec:∀ {os:List Oper} {l:List AOper},mOpers P N ops os l=true→os.length=l.length∧∀(i:Nat) (o:Oper) (ao:AOper),os[i]? = some o→l[i]? = some ao→mOper P N ops o ao=true
 | [],[],_=>⟨rfl,fun i o ao h=>by simp at h⟩
 | [],_::_,h=>by simp[mOpers] at h
 | _::_,[],h=>by simp[mOpers] at h
 | o::os,a::as,h=>by
  simp only[mOpers,Bool.and_eq_true] at h
  obtain⟨h1,h2⟩:=mOpers_spec h.2
  refine⟨by simp[h1],fun i o' ao' ho ha=>?_⟩
  cases i with
  | zero=>simp at ho ha;subst ho;subst ha;exact h.1
  | succ i=>exact h2 i o' ao' (by simpa using ho) (by simpa using ha)
theorem Fits.of {l:List AOper} (h:mOpers P N ops ops.toList l=true):Fits P N ops l:=by
 obtain⟨h1,h2⟩:=mOpers_spec h
 exact⟨by simpa using h1,fun i o ao ho ha=>h2 i o ao (by simpa using ho) ha⟩
theorem Fits.get {l:List AOper} (h:Fits P N ops l) {i:Nat} (hi:i<l.length):∃ o,ops[i]? = some o∧mOper P N ops o (l.getD i default)=true:=by
 have hs:i<ops.size:=by rw[h.len];exact hi
 refine⟨ops[i],Array.getElem?_eq_getElem hs,h.m i _ _ (Array.getElem?_eq_getElem hs) ?_⟩
 rw[List.getD_eq_getElem?_getD,List.getElem?_eq_getElem hi];try rfl
theorem evOper_novac (hC:∀ f,Contract P f (C f)) {i:Nat} {o:Oper} {ao:AOper} (hm:mOper P N ops o ao=true) (h:R w0 I0 N I ρ s a w):evOper C s ao≠.vac:=by
 obtain⟨hd,hN,hg,hop⟩:=mOper_spec hm
 have:=no_vac (C:=C) hop h
 intro he
 unfold evOper at he
 have hap:∀ r,ap ao.d s r=.vac→r=.vac:=by intro r hr;cases r<;>first|rfl|cases hr
 split at he
 ·exact this (hap _ he)
 ·split at he
  ·split at he
   ·exact this (hap _ he)
   ·cases he
  ·cases he
  ·cases he
theorem evOps_novac (hC:∀ f,Contract P f (C f)) {l:List AOper} (hf:Fits P N ops l):∀(is:List Nat) {I:Nat→Prop} {ρ:Nat→Place} {s:St} {a:Act} {w:World},(∀ i∈is,i<l.length)→R w0 I0 N I ρ s a w →
  evOps C (is.map (l.getD · default)) s≠.vac
 | [],_,_,_,_,_,_,_=>by simp[evOps]
 | i::is,I,ρ,s,a,w,hi,h=>by
  obtain⟨o,ho,hm⟩:=hf.get (hi i (by simp))
  simp only[List.map_cons,evOps]
  split
  ·rename_i s' he
   have hw:=oper_wp (K:=fun a' w'=>∃ I' ρ',R w0 I0 N I' ρ' s' a' w') (Q:=fun _ _ _=>False) hC hm ho h he (fun I' ρ' a' w' hr=>⟨I',ρ',hr⟩)
   obtain⟨a',w',I',ρ',hr⟩:=wpOp_some ho hw
   exact evOps_novac hC hf is (fun j hj=>hi j (by simp[hj])) hr
  ·simp
  ·rename_i he
   exact absurd he (evOper_novac hC (i:=i) hm h)
theorem range_map (l:List AOper):(List.range l.length).map (l.getD · default)=l:=by
 apply List.ext_getElem
 ·simp
 ·intro i h1 h2
  simp[h2]
theorem wpOps_run (hC:∀ f,Contract P f (C f)) {l:List AOper} (hf:Fits P N ops l) {Q:Exit→Act→World→Prop} {sf:St} (hQ:∀ I' ρ' a' w',R w0 I0 N I' ρ' sf a' w'→Q .normal a' w') :
  ∀(is:List Nat) {I:Nat→Prop} {ρ:Nat→Place} {s:St} {a:Act} {w:World},(∀ i∈is,i<l.length)→R w0 I0 N I ρ s a w→evOps C (is.map (l.getD · default)) s=.ok sf→wpOps P ops Q is a w
 | [],I,ρ,s,a,w,_,h,he=>by
  simp only[List.map_nil,evOps] at he
  cases he
  exact hQ _ _ _ _ h
 | i::is,I,ρ,s,a,w,hi,h,he=>by
  obtain⟨o,ho,hm⟩:=hf.get (hi i (by simp))
  rw[wpOps_cons]
  simp only[List.map_cons,evOps] at he
  split at he
  ·rename_i s' he1
   exact oper_wp hC hm ho h he1 (fun I' ρ' a' w' hr=>wpOps_run hC hf hQ is (fun j hj=>hi j (by simp[hj])) hr he)
  ·cases he
  ·cases he
def befOf (o:Oper) (acc:List Nat):Nat:=o.after.toList.foldl (fun m e=>if Region.binds .any e then m ||| (2^e.on ||| acc.getD e.on 0) else m) 0
def befs:List Oper→List Nat→List Nat
 | [],acc=>acc
 | o::os,acc=>befs os (acc++[befOf o acc])
inductive Anc (ops:Array Oper):Nat→Nat→Prop
 | one {i:Nat} {o:Oper} {e:Edge} (ho:ops[i]? = some o) (he:e∈o.after) (hb:Region.binds .any e=true):Anc ops i e.on
 | more {i j:Nat} {o:Oper} {e:Edge} (ho:ops[i]? = some o) (he:e∈o.after) (hb:Region.binds .any e=true) (h:Anc ops e.on j):Anc ops i j
theorem befOf_spec {acc:List Nat} {j:Nat}:∀(es:List Edge) (m:Nat),(es.foldl (fun m e=>if Region.binds .any e then m ||| (2^e.on ||| acc.getD e.on 0) else m) m).testBit j=true →
  m.testBit j=true∨∃ e∈es,Region.binds .any e=true∧(e.on=j∨(acc.getD e.on 0).testBit j=true)
 | [],m,h=>.inl h
 | e::es,m,h=>by
  simp only[List.foldl_cons] at h
  rcases befOf_spec es _ h with h1|⟨e',he',hb,h2⟩
  ·split at h1
   ·rename_i hb
    simp only[Nat.testBit_or,Bool.or_eq_true] at h1
    rcases h1 with h1|h1|h1
    ·exact .inl h1
    ·refine .inr ⟨e,by simp,hb,.inl ?_⟩
     rw[Nat.testBit_two_pow] at h1
     simpa using h1
    ·exact .inr ⟨e,by simp,hb,.inr h1⟩
   ·exact .inl h1
  ·exact .inr ⟨e',by simp[he'],hb,h2⟩
theorem befs_spec:∀(os:List Oper) (acc:List Nat),(∀ i o,os[i]? = some o→ops[acc.length+i]? = some o)→(∀ i j,(acc.getD i 0).testBit j=true→Anc ops i j)→∀ i j,((befs os acc).getD i 0).testBit j=true→Anc ops i j
 | [],acc,_,h,i,j,hb=>h i j hb
 | o::os,acc,ho,h,i,j,hb=>by
  refine befs_spec os (acc++[befOf o acc]) (fun k o' hk=>?_) (fun k j hk=>?_) i j hb
  ·have:=ho (k+1) o' (by simpa using hk)
   simp only[List.length_append,List.length_singleton]
   rw[← this]
   congr 1
   omega
  ·rw[List.getD_eq_getElem?_getD,List.getElem?_append] at hk
   split at hk
   ·exact h k j (by rw[List.getD_eq_getElem?_getD];exact hk)
   ·rename_i hge
    by_cases hke:k=acc.length
    ·subst hke
     simp only[Nat.sub_self,List.getElem?_cons_zero,Option.getD_some] at hk
     have hok:=ho 0 o rfl
     simp only[Nat.add_zero] at hok
     unfold befOf at hk
     rcases befOf_spec _ _ hk with h0|⟨e,he,hb,h1⟩
     ·simp at h0
     ·have he':e∈o.after:=by simpa using he
      rcases h1 with rfl|h1
      ·exact .one hok he' hb
      ·exact .more hok he' hb (h _ _ h1)
    ·rw[List.getElem?_eq_none (by simp;omega)] at hk
     simp at hk
def ordOk (ops:Array Oper) (l:List AOper):Bool :=
 let bs:=befs ops.toList []
 ((List.range ops.size).all fun i=>((ops.getD i default).after.toList.all fun e => !Region.binds .any e||decide (e.on<i))) &&
 ((List.range l.length).all fun i=>(List.range i).all fun j=>(bs.getD i 0).testBit j||comm2 (l.getD j default) (l.getD i default))
structure Ord (ops:Array Oper) (l:List AOper):Prop where
 early:∀ i o,ops[i]? = some o→∀ e∈o.after,Region.binds .any e=true→e.on<i
 comm:∀ i j,i<l.length→j<i→Anc ops i j∨comm2 (l.getD j default) (l.getD i default)=true
theorem Ord.of {l:List AOper} (h:ordOk ops l=true):Ord ops l:=by
 unfold ordOk at h
 simp only[Bool.and_eq_true] at h
 obtain⟨h1,h2⟩:=h
 rw[List.all_eq_true] at h1 h2
 refine⟨fun i o ho e he hb=>?_,fun i j hi hj=>?_⟩
 ·have hi:i<ops.size:=by
   rcases Nat.lt_or_ge i ops.size with h|h
   ·exact h
   ·rw[Array.getElem?_eq_none h] at ho;cases ho
  have:=h1 i (by simpa using hi)
  rw[List.all_eq_true] at this
  have hoo:ops.getD i default=o:=by
   rw[Array.getElem?_eq_getElem hi] at ho
   simp only[Array.getD,hi,dif_pos]
   simpa using ho
  rw[hoo] at this
  have:=this e (by simpa using he)
  simpa [hb] using this
 ·have:=h2 i (by simpa using hi)
  rw[List.all_eq_true] at this
  have:=this j (by simpa using hj)
  simp only[Bool.or_eq_true] at this
  rcases this with h|h
  ·exact .inl (befs_spec (ops:=ops) ops.toList [] (fun k o hk=>by simpa using hk) (fun k j hk=>by simp at hk) i j h)
  ·exact .inr h
theorem getD_lit {listed:Array Bool} {n i:Nat} (hs:listed.size=n) (hi:i<n) (d d':Bool):listed.getD i d=listed.getD i d':=by
 simp[Array.getD,hs,hi]
theorem wpAny_run (hC:∀ f,Contract P f (C f)) {l:List AOper} (hf:Fits P N ops l) (hord:Ord ops l) {Q:Exit→Act→World→Prop} {sf:St} (hQ:∀ I' ρ' a' w',R w0 I0 N I' ρ' sf a' w'→Q .normal a' w') :
  ∀(fuel:Nat) (rem:List Nat) (listed:Array Bool) {sg:St} {I:Nat→Prop} {ρ:Nat→Place} {s:St} {a:Act} {w:World},rem.length=fuel→listed.size=ops.size→rem.Pairwise (·<·) →
   (∀ i,i∈rem↔i<ops.size∧listed.getD i false=false) →
   (∀ i o,ops[i]? = some o→listed.getD i false=true→∀ e∈o.after,Region.binds .any e=true→listed.getD e.on false=true) →
   R w0 I0 N I ρ s a w→evOps C (rem.map (l.getD · default)) s=.ok sg→Eqv sf sg→wpAny P .any ops Q fuel listed a w:=by
 intro fuel
 induction fuel with
 | zero =>
  intro rem listed sg I ρ s a w hl hsz hpw hrem hdown h he hq
  have hnil:rem=[]:=by simpa using hl
  subst hnil
  simp only[List.map_nil,evOps] at he
  cases he
  refine⟨?_,hQ _ _ _ _ (h.eqv hq.symm)⟩
  rw[List.eq_nil_iff_forall_not_mem]
  intro i hi
  rw[mem_ready] at hi
  obtain⟨h2,o,h3,h4⟩:=hi
  have hlt:i<ops.size:=(Array.getElem?_eq_some_iff.1 h3).1
  have:i∈([]:List Nat):=by
   rw[hrem]
   exact⟨hlt,by rw[getD_lit hsz hlt false true];exact h2⟩
  simp at this
 | succ fuel ih =>
  intro rem listed sg I ρ s a w hl hsz hpw hrem hdown h he hq
  have hready:∀ i,i∈Region.ready .any ops listed↔i∈rem∧∃ o,ops[i]? = some o∧∀ e∈o.after,Region.binds .any e=true→listed.getD e.on false=true:=by
   intro i
   rw[mem_ready,hrem]
   constructor
   ·rintro⟨h2,o,h3,h4⟩
    have h1:i<ops.size:=(Array.getElem?_eq_some_iff.1 h3).1
    exact⟨⟨h1,by rw[getD_lit hsz h1 false true];exact h2⟩,o,h3,h4⟩
   ·rintro⟨⟨h1,h2⟩,o,h3,h4⟩
    exact⟨by rw[getD_lit hsz h1 true false];exact h2,o,h3,h4⟩
  refine⟨fun hnil=>?_,fun i hi=>?_⟩
  ·exfalso
   match rem,hl,hpw,hrem,hready with
   | x::rem,hl,hpw,hrem,hready =>
    have hx:=(hrem x).1 (by simp)
    have:x∈Region.ready .any ops listed:=by
     rw[hready]
     refine⟨by simp,ops[x]'hx.1,Array.getElem?_eq_getElem hx.1,fun e he hb=>?_⟩
     have hlt:=hord.early x _ (Array.getElem?_eq_getElem hx.1) e he hb
     have hno:e.on ∉ x::rem:=by
      intro hm
      simp only[List.mem_cons] at hm
      rcases hm with hm|hm
      ·omega
      ·have:=(List.pairwise_cons.1 hpw).1 _ hm;omega
     have hes:e.on<ops.size:=by omega
     rw[hrem] at hno
     have:¬ listed.getD e.on false=false:=fun hc=>hno ⟨hes,hc⟩
     simpa using this
    rw[hnil] at this
    simp at this
  ·obtain⟨him,o,ho,hedges⟩:=(hready i).1 hi
   obtain⟨r1,r2,rfl⟩:=List.append_of_mem him
   have hin:=(hrem i).1 him
   have hil:i<l.length:=by rw[← hf.len];exact hin.1
   have hanc:∀ i j,Anc ops i j→(∀ o,ops[i]? = some o→∀ e∈o.after,Region.binds .any e=true→listed.getD e.on false=true)→listed.getD j false=true:=by
    intro i j hA
    induction hA with
    | one ho he hb=>intro hh;exact hh _ ho _ he hb
    | more ho he hb _ ih=>intro hh;exact ih (fun o' ho' e' he' hb'=>hdown _ o' ho' (hh _ ho _ he hb) e' he' hb')
   have hcomm:∀ x∈r1.map (l.getD · default),comm2 x (l.getD i default)=true:=by
    intro x hx
    obtain⟨j,hj,rfl⟩:=List.mem_map.1 hx
    have hji:j<i:=by
     rw[List.pairwise_append] at hpw
     exact hpw.2.2 j hj i (by simp)
    rcases hord.comm i j hil hji with hA|hc
    ·have h1:=hanc i j hA (fun o' ho'=>by rw[ho] at ho';cases ho';exact hedges)
     have h2:=(hrem j).1 (by simp[hj])
     rw[h2.2] at h1;cases h1
    ·exact hc
   rw[List.map_append,List.map_cons] at he
   obtain⟨s1,he1,sf',he2,hq'⟩:=ahead _ hcomm he
   obtain⟨o',ho',hm⟩:=hf.get hil
   refine oper_wp hC hm ho' h he1 (fun I' ρ' a' w' hr=>?_)
   have hpw':(r1++r2).Pairwise (·<·):=by
    rw[List.pairwise_append] at hpw ⊢
    exact⟨hpw.1,(List.pairwise_cons.1 hpw.2.1).2,fun x hx y hy=>hpw.2.2 x hx y (by simp[hy])⟩
   have hine:∀ x∈r1++r2,x≠i:=by
    intro x hx e
    subst e
    rw[List.pairwise_append] at hpw
    simp only[List.mem_append] at hx
    rcases hx with hx|hx
    ·have:=hpw.2.2 x hx x (by simp);omega
    ·have:=(List.pairwise_cons.1 hpw.2.1).1 x hx;omega
   refine ih (r1++r2) _ (by simp at hl ⊢;omega) (by simpa using hsz) hpw' (fun x=>?_) (fun x o'' hx hl e hee hb=>?_) hr (by rw[List.map_append];exact he2) (hq.trans hq')
   ·have hx:=hrem x
    by_cases hxi:x=i
    ·subst hxi
     constructor
     ·intro hm;exact absurd rfl (hine x hm)
     ·rintro⟨_,h2⟩
      simp[Array.getD,hsz,hin.1] at h2
    ·rw[getD_set_ne _ (Ne.symm hxi),← hx]
     simp[hxi]
   ·by_cases hxi:x=i
    ·subst hxi
     rw[ho] at hx;cases hx
     exact getD_set_true (hedges e hee hb)
    ·rw[getD_set_ne _ (Ne.symm hxi)] at hl
     exact getD_set_true (hdown x o'' hx hl e hee hb)
end
end Go.Am
namespace Go.Am
set_option linter.unusedSimpArgs false
set_option linter.unusedVariables false
open Go.RowKit
def mNext (N:Nat) (ops:List Oper) (x:AOpd) (d e:Nat):Bool :=
 match ops with
 | [o1,o2]=>decide (o1.dst=some d)&&(o1.guard.isNone&&((match o1.op with|.next y false=>mOpd y x|_=>false) &&
   (decide (o2.dst=some e)&&(o2.guard.isNone&&((match o2.op with|.extract (.tmp n) 0=>decide (n=d)|_=>false)&&(decide (d<N)&&decide (e<N)))))))
 | _=>false
def mNilq (P:Program) (N:Nat) (ops:List Oper) (x:AOpd) (m d:Nat):Bool :=
 match ops with
 | [o1,o2]=>decide (o1.dst=some m)&&(o1.guard.isNone&&((match o1.op with|.move y=>mOpd y x|_=>false) &&
   (decide (o2.dst=some d)&&(o2.guard.isNone&&((match o2.op with|.binOp .eql t (.tmp n) (.const (.slice none 0 0)) _=>decide (n=m)&&(match P.underlying t with|some (.slice _)=>true|_=>false)|_=>false)&&(decide (m<N)&&decide (d<N)))))))
 | _=>false
def mCode (P:Program) (N:Nat):Code→ACode→Bool
 | c,.keep _ _ a=>mCode P N c a
 | c,.skip=>match c with
  | .skip=>true
  | .label _=>true
  | _=>false
 | c,.ops l _=>match c with
  | .region _ ops draw=>mOpers P N ops ops.toList l&&(!draw||ordOk ops l)
  | _=>false
 | c,.seq a b=>match c with
  | .seq x y=>mCode P N x a&&mCode P N y b
  | _=>false
 | c,.cond v a b=>match c with
  | .cond u x y=>mOpd u v&&(mCode P N x a&&mCode P N y b)
  | _=>false
 | c,.block i a=>match c with
  | .block j x=>decide (j=i)&&mCode P N x a
  | _=>false
 | c,.loop a=>match c with
  | .loop x=>mCode P N x a
  | _=>false
 | c,.exit i=>match c with
  | .exit j=>decide (j=i)
  | _=>false
 | c,.ret=>match c with
  | .ret=>true
  | _=>false
 | c,.next x d e _ _=>match c with
  | .region _ ops draw => !draw&&mNext N ops.toList x d e
  | _=>false
 | c,.nilq x m d _=>match c with
  | .region _ ops draw => !draw&&mNilq P N ops.toList x m d
  | _=>false
def mRes (P:Program):ResultVar→ARes→Bool
 | .tmp t,.t n=>decide (t=n)
 | .cell a t,.cell b n agg=>decide (a=b)&&tIs P t n agg
 | _,_=>false
def mRess (P:Program):List ResultVar→List ARes→Bool
 | [],[]=>true
 | r::rs,a::as=>mRes P r a&&mRess P rs as
 | _,_=>false
def mFun (P:Program) (fn:Func) (A:AFun):Bool :=
 match fn.body with
 | some c => decide (P.funcs.size ≤ sBase) && (decide (fn.name ≠ "runtime.NumGoroutine") && (decide (fn.ntmps = A.nt) && (decide (A.np ≤ A.nt) && (mRess P fn.results.toList A.res && mCode P A.nt c A.code))))
 | none=>false
def exOf:Ex→Exit
 | .normal=>.normal
 | .exit i=>.exit i
 | .ret=>.ret
theorem least {p:Nat→Prop} (h:∃ n,p n):∃ n,p n∧∀ m,p m→n≤m:=by
 obtain⟨n,hn⟩:=h
 induction n using Nat.strongRecOn with
 | _ n ih =>
  by_cases hx:∃ m,m<n∧p m
  ·obtain⟨m,hm,hp⟩:=hx
   exact ih m hm hp
  ·refine⟨n,hn,fun m hp=>?_⟩
   rcases Nat.lt_or_ge m n with h|h
   ·exact absurd ⟨m,h,hp⟩ hx
   ·exact h
section
variable {P:Program} {w0:Base} {I0:Nat→Prop} {N:Nat} {C:Cs}
theorem R.mapVR {I:Nat→Prop} {ρ:Nat→Place} {s:St} {a:Act} {w w1:World} {b g:Nat} {v:Value} (_:R w0 I0 N I ρ s a w1) (hv:VR I w (modeOf s ρ) (.mp b g) v) (_:w1.heap=w.heap):VR I w1 (modeOf s ρ) (.mp b g) v:=by
 simp only[VR,modeOf] at hv ⊢
 exact hv
theorem next_sound {id:Nat} {ops:Array Oper} {x:AOpd} {d e:Nat} {fp live:List Nat} {I:Nat→Prop} {ρ:Nat→Place} {s:St} {a:Act} {w:World} {Qa:Post} {Q:Exit→Act→World→Prop} (hc:mNext N ops.toList x d e=true)
  (h:R w0 I0 N I ρ s a w) (hw:wpC C (.next x d e fp live) s Qa) (hQ:∀ e s' I' ρ' a' w',Qa e s'→R w0 I0 N I' ρ' s' a' w'→Q (exOf e) a' w'):(Code.region id ops false).wp P Q a w:=by
 unfold mNext at hc
 split at hc
 ·rename_i o1 o2 hops
  have eo:ops=#[o1,o2]:=by apply Array.ext';simpa using hops
  subst eo
  simp only[Bool.and_eq_true,decide_eq_true_eq] at hc
  obtain⟨hd1,hg1,hop1,hd2,hg2,hop2,hdN,heN⟩:=hc
  split at hop1
  ·rename_i y hy
   split at hop2
   ·rename_i n hn
    simp only[decide_eq_true_eq] at hop2
    subst hop2
    rw[wpC] at hw
    cases htc:toCome s fp (opv s x) with
    | none=>rw[htc] at hw;exact hw.elim
    | some qq =>
     obtain⟨b,k,z,mm⟩:=qq
     rw[htc] at hw
     simp only at hw
     have hxv:=h.opd hop1
     have tail:∀(t:Bool) (vs:List Value) (s1:St) (w':World),R w0 I0 N I ρ s1 a w'→Qa .normal ⟨keepT (put (put s1.t n .junk) e (.bool t)) live,s1.h,s1.g⟩→wpOps P #[o1,o2] Q [1] (a.put o1.dst (.tuple (Value.bool t::vs).toArray)) w':=by
      intro t vs s1 w' hr hq
      have hr1:=hr.putO (d:=some n) (x:=some .junk) (v:=.tuple (Value.bool t::vs).toArray) (fun m hm=>by cases hm;exact hdN) (fun y hy=>by cases hy;simp[VR])
      rw[hd1]
      have hev:(a.put (some n) (.tuple (Value.bool t::vs).toArray)).eval (.tmp n)=.tuple (Value.bool t::vs).toArray:=by
       have:n<a.tmps.size:=by rw[hr.size];exact hdN
       simp[Act.put,Act.eval,this]
      rw[wpOps_cons]
      unfold wpOp
      simp only[show (#[o1,o2]:Array Oper)[1]? = some o2 from rfl]
      rw[if_pos (by simp only[Region.wanted];cases hg:o2.guard<;>simp[hg] at hg2 ⊢)]
      refine .inl (wp_of_run (v:=.bool t) (w':=w') ?_ ?_)
      ·simp only[execOp,hn]
       rw[hev]
       simp[Instr.extract]
      ·have hr2:=hr1.putO (d:=some e) (x:=some (.bool t)) (v:=.bool t) (fun m hm=>by cases hm;exact heN) (fun y hy=>by cases hy;simp[VR])
       rw[hd2]
       show Q .normal _ _
       exact hQ .normal _ _ _ _ _ hq (hr2.drop (fun t'=>look_keepT _ live t') (fun b=>.inr rfl))
     unfold toCome at htc
     split at htc
     ·rename_i b0 g0 hp
      rw[hp] at hxv
      split at htc
      ·rename_i k0 hk
       split at htc
       ·rename_i mb mg n0 c0 seen hit
        split at htc
        ·rename_i q hm
         split at htc
         ·rename_i hcond
          simp only[Option.some.injEq,Prod.mk.injEq] at htc
          obtain⟨rfl,rfl,rfl,rfl⟩:=htc
          obtain⟨r,σ,m,since,sn,c,hρ,hav,hl,hkt,hwp,b',g',hcs,hmv,hsc⟩:=h.come hk hxv
          rw[hcs] at hit
          simp only[itOf,Option.some.injEq,Prod.mk.injEq] at hit
          obtain⟨rfl,rfl,rfl,rfl,rfl⟩:=hit
          obtain⟨r2,σ2,es,hρ2,hav2,hl2,hqt,hw2,hent⟩:=h.mapped hm hmv
          cases hav2
          have e1:q.cs.length/2=es.size:=by have:=ent_len _ _ _ hent;simp at this;omega
          have e2:since=es.size:=by have:=hcond.2;rw[e1] at this;omega
          subst e2
          rw[e1] at hw
          have hborn:∀(i:Nat) (f:MapEntry),es.toList[i]? = some f→f.born=i:=fun i f hf=>by have:=ent_get _ _ _ i f hent hf;omega
          have hold:∀ f∈es.toList,f.born<es.size:=fun f hf=>by
           obtain⟨i,hi,rfl⟩:=List.mem_iff_getElem.1 hf
           have:=hborn i _ (List.getElem?_eq_getElem hi)
           simp at hi
           omega
          refine wp_region ?_
          show wpOps P #[o1,o2] Q [0,1] a w
          rw[wpOps_cons]
          unfold wpOp
          simp only[show (#[o1,o2]:Array Oper)[0]? = some o1 from rfl]
          rw[if_pos (by simp only[Region.wanted];cases hg:o1.guard<;>simp[hg] at hg1 ⊢)]
          left
          rcases run_next_at (P:=P) w o1.type r m es.size c sn es es.size hwp hw2 hold hsc with⟨h0,hrun⟩|⟨f,hf,w1,hw1,hrun⟩
          ·refine wp_of_run (v:=.tuple #[.bool false]) (w':=w) ?_ (tail false [] s w h (hw.2 fun i hi=>?_))
           ·simp only[execOp,hy]
            rw[hav]
            simp only[Sem.run_bind,hrun,Result.andThen]
            rfl
           ·have hlt:i<es.toList.length:=by simpa using hi
            have:=all_seen es sn h0 _ (List.getElem_mem hlt)
            rw[hborn i _ (List.getElem?_eq_getElem hlt)] at this
            exact⟨.int .i64 i,List.mem_map.2 ⟨i,by simpa using this,rfl⟩,rfl⟩
          ·unfold leftOf at hf
           simp only[Array.toList_filter,List.mem_filter,Bool.not_eq_true'] at hf
           obtain⟨hf1,hf2⟩:=hf
           obtain⟨i,hi,hfi⟩:=List.mem_iff_getElem.1 hf1
           have hbi:f.born=i:=by rw[← hfi];exact hborn i _ (List.getElem?_eq_getElem hi)
           rw[hbi] at hf2 hrun
           have hrw:w1.heap=w.heap∧w1.os=w.os∧w1.tape=w.tape∧w1.output=w.output:=by rcases hw1 with rfl|rfl<;>exact⟨rfl,rfl,rfl,rfl⟩
           have hr1:R w0 I0 N I ρ s a w1:=h.world hrw.1 hrw.2.1 hrw.2.2.1 hrw.2.2.2
           have hrsz:r<w.heap.size:=(Array.getElem?_eq_some_iff.1 hwp).1
           have hR:=hr1.setI (w':=Go.ChangeMaps.setBlock w1 r (.mapIter (some m) es.size (sn.push i) es.size)) hl hcond.1 hkt hρ m es.size (sn.push i) es.size (itMore k0 (b',g',(es.size:Int),(c:Int),sn.toList.map fun (n:Nat)=>AV.int .i64 (n:Int)) es.size i).cs rfl rfl rfl (by simp[Go.ChangeMaps.setBlock]) (fun j hj=>by simp[Go.ChangeMaps.setBlock,Array.getElem?_setIfInBounds,Ne.symm hj]) (by simp[Go.ChangeMaps.setBlock,hrw.1,hrsz]) ⟨b',g',by simp[itMore],(h.world hrw.1 hrw.2.1 hrw.2.2.1 hrw.2.2.2 |>.mapVR hmv hrw.1),Nat.le_refl _⟩
           refine wp_of_run (v:=.tuple #[.bool true,f.key,f.val]) ?_ (tail true [f.key,f.val] _ _ hR (hw.1 i (by simpa using hi) fun y hy=>?_))
           ·simp only[execOp,hy]
            rw[hav]
            simp only[Sem.run_bind,hrun,Result.andThen]
            rfl
           ·obtain⟨j,hj,e4⟩:=List.mem_map.1 hy
            intro e3
            rw[← e4] at e3
            simp only[AV.int.injEq,true_and] at e3
            have e5:j=i:=by omega
            subst e5
            have:sn.contains j=true:=by simpa using hj
            rw[this] at hf2
            cases hf2
         ·cases htc
        ·cases htc
       ·cases htc
      ·cases htc
     ·cases htc
   ·cases hop2
  ·cases hop1
 ·cases hc
theorem run_eqnil {t e:TypeId} {a:Option Addr} {n c:Nat} (w:World) (h:P.underlying t=some (.slice e)):(binOp .eql t (.slice a n c) (.slice none 0 0)).run P w=.ok (.bool a.isNone) w :=
 Go.Lib.run_eql_slice_nil w t e a n c 0 0 h
theorem nilq_sound {id:Nat} {ops:Array Oper} {x:AOpd} {m d:Nat} {live:List Nat} {I:Nat→Prop} {ρ:Nat→Place} {s:St} {a:Act} {w:World} {Qa:Post} {Q:Exit→Act→World→Prop} (hc:mNilq P N ops.toList x m d=true)
  (h:R w0 I0 N I ρ s a w) (hw:wpC C (.nilq x m d live) s Qa) (hQ:∀ e s' I' ρ' a' w',Qa e s'→R w0 I0 N I' ρ' s' a' w'→Q (exOf e) a' w'):(Code.region id ops false).wp P Q a w:=by
 unfold mNilq at hc
 split at hc
 ·rename_i o1 o2 hops
  have eo:ops=#[o1,o2]:=by apply Array.ext';simpa using hops
  subst eo
  simp only[Bool.and_eq_true,decide_eq_true_eq] at hc
  obtain⟨hd1,hg1,hop1,hd2,hg2,hop2,hdN,heN⟩:=hc
  split at hop1
  ·rename_i y hy
   split at hop2
   ·rename_i t n tt hn
    simp only[Bool.and_eq_true,decide_eq_true_eq] at hop2
    obtain⟨rfl,hop2⟩:=hop2
    split at hop2
    ·rename_i e hu
     have hxv:=h.opd hop1
     have go:∀(p:Option Addr) (k c:Nat) (xv:AV),a.eval y=.slice p k c→VR I w (modeOf s ρ) xv (.slice p k c)→Qa .normal ⟨keepT (put (put s.t n xv) d (.bool p.isNone)) live,s.h,s.g⟩→(Code.region id #[o1,o2] false).wp P Q a w:=by
      intro p k c xv hv hxr hq
      have hr1:=h.putO (d:=some n) (x:=some xv) (v:=.slice p k c) (fun m hm=>by cases hm;exact hdN) (fun y hy=>by cases hy;exact hxr)
      refine wp_region ?_
      show wpOps P #[o1,o2] Q [0,1] a w
      rw[wpOps_cons]
      unfold wpOp
      simp only[show (#[o1,o2]:Array Oper)[0]? = some o1 from rfl]
      rw[if_pos (by simp only[Region.wanted];cases hg:o1.guard<;>simp[hg] at hg1 ⊢)]
      refine .inl (wp_of_run (v:=.slice p k c) (w':=w) ?_ ?_)
      ·simp only[execOp,hy,hv]
       rfl
      ·rw[hd1,wpOps_cons]
       unfold wpOp
       simp only[show (#[o1,o2]:Array Oper)[1]? = some o2 from rfl]
       rw[if_pos (by simp only[Region.wanted];cases hg:o2.guard<;>simp[hg] at hg2 ⊢)]
       have hev:(a.put (some n) (.slice p k c)).eval (.tmp n)=.slice p k c:=by
        have:n<a.tmps.size:=by rw[h.size];exact hdN
        simp[Act.put,Act.eval,this]
       refine .inl (wp_of_run (v:=.bool p.isNone) (w':=w) ?_ ?_)
       ·simp only[execOp,hn,hev]
        have:=run_eqnil (P:=P) (a:=p) (n:=k) (c:=c) w hu
        simp[eqGuard,Act.eval,this]
       ·have hr2:=hr1.putO (d:=some d) (x:=some (.bool p.isNone)) (v:=.bool p.isNone) (fun m hm=>by cases hm;exact heN) (fun y hy=>by cases hy;simp[VR])
        rw[hd2]
        show Q .normal _ _
        exact hQ .normal _ _ _ _ _ hq (hr2.drop (fun t'=>look_keepT _ live t') (fun b=>.inr rfl))
     rw[wpC] at hw
     split at hw
     ·rename_i hx
      rw[hx] at hxv
      have hv:a.eval y=.slice none 0 0:=by simpa [VR] using hxv
      rw[hv] at hxv
      exact go none 0 0 .nils hv hxv hw
     ·rename_i k xs hx
      rw[hx] at hxv
      have hx2:=hxv
      simp only[VR] at hx2
      rcases hx2 with⟨rfl,rfl,p,c,hv⟩|⟨b,off,cap,cs,hv,_⟩
      ·rw[hv] at hxv
       cases p with
       | none=>exact go none 0 c _ hv hxv (hw.1 rfl)
       | some p=>exact go (some p) 0 c _ hv hxv hw.2
      ·rw[hv] at hxv
       exact go _ k cap _ hv hxv hw.2
     ·exact hw.elim
    ·cases hop2
   ·cases hop2
  ·cases hop1
 ·cases hc
theorem mCode_sound (hm:P.follows .mixedOrders=true) (hC:∀ f,Contract P f (C f)):∀(ac:ACode) (c:Code),mCode P N c ac=true →
  ∀ {I:Nat→Prop} {ρ:Nat→Place} {s:St} {a:Act} {w:World} (Qa:Post) (Q:Exit→Act→World→Prop),R w0 I0 N I ρ s a w→wpC C ac s Qa →
   (∀ e s' I' ρ' a' w',Qa e s'→R w0 I0 N I' ρ' s' a' w'→Q (exOf e) a' w')→c.wp P Q a w
 | .keep kt kh ac,c,hc,I,ρ,s,a,w,Qa,Q,h,hw,hQ=>by
  unfold mCode at hc
  exact mCode_sound hm hC ac c hc Qa Q (h.drop (fun t=>look_keepT s.t kt t) (fun b=>hlook_keepH s.h kh b)) hw hQ
 | .skip,c,hc,I,ρ,s,a,w,Qa,Q,h,hw,hQ=>by
  unfold mCode at hc
  split at hc
  ·exact wp_skip (hQ _ _ _ _ _ _ hw h)
  ·exact wp_label (hQ _ _ _ _ _ _ hw h)
  ·cases hc
 | .ops l kill,c,hc,I,ρ,s,a,w,Qa,Q,h,hw,hQ=>by
  unfold mCode at hc
  split at hc
  ·rename_i id ops draw
   simp only[Bool.and_eq_true,Bool.or_eq_true,Bool.not_eq_true'] at hc
   obtain⟨h1,h2⟩:=hc
   have hf:=Fits.of h1
   rw[wpC] at hw
   have hnv:evOps C l s≠.vac:=by
    have:=evOps_novac (C:=C) hC hf (List.range l.length) (fun i hi=>by simpa using hi) h
    rwa [range_map] at this
   match he:evOps C l s,hw,hnv with
   | .ok sf,hw,_ =>
    have hfin:∀ I' ρ' a' w',R w0 I0 N I' ρ' sf a' w'→Q .normal a' w':=fun I' ρ' a' w' hr =>
     hQ .normal _ I' ρ' a' w' hw (hr.drop (fun t=>look_keepT sf.t kill t) (fun b=>.inr rfl))
    rcases h2 with rfl|h2
    ·refine wp_region ?_
     rw[hf.len]
     exact wpOps_run hC hf hfin _ (fun i hi=>by simpa using hi) h (by rw[range_map];exact he)
    ·have hrun:wpAny P .any ops Q ops.size (Array.replicate ops.size false) a { w with drawn:=w.drawn+1 }:=by
      refine wpAny_run hC hf (Ord.of h2) hfin ops.size (List.range l.length) _ (by rw[List.length_range,hf.len]) (by simp) List.pairwise_lt_range (fun i=>?_) (fun i o ho hl=>?_) (h.world (w':={ w with drawn:=w.drawn+1 }) rfl rfl rfl rfl) (by rw[range_map];exact he) (Eqv.refl _)
      ·rw[List.mem_range,hf.len]
       constructor
       ·intro hi;exact⟨hi,by simp[Array.getD]⟩
       ·exact fun hi=>hi.1
      ·simp[Array.getD] at hl
     cases draw with
     | true=>exact wp_region_any hm hrun
     | false =>
      refine wp_region ?_
      rw[hf.len]
      exact wpOps_run hC hf hfin _ (fun i hi=>by simpa using hi) h (by rw[range_map];exact he)
   | .fail,hw,_=>exact hw.elim
   | .vac,_,hnv=>exact absurd rfl hnv
  ·cases hc
 | .seq x y,c,hc,I,ρ,s,a,w,Qa,Q,h,hw,hQ=>by
  unfold mCode at hc
  split at hc
  ·simp only[Bool.and_eq_true] at hc
   rw[wpC] at hw
   refine wp_seq (mCode_sound hm hC x _ hc.1 _ _ h hw fun e s' I' ρ' a' w' he hr=>?_)
   cases e with
   | normal=>exact mCode_sound hm hC y _ hc.2 _ _ hr he hQ
   | exit id=>exact hQ _ _ _ _ _ _ he hr
   | ret=>exact hQ _ _ _ _ _ _ he hr
  ·cases hc
 | .cond v x y,c,hc,I,ρ,s,a,w,Qa,Q,h,hw,hQ=>by
  unfold mCode at hc
  split at hc
  ·simp only[Bool.and_eq_true] at hc
   have hv:=h.opd hc.1
   rw[wpC] at hw
   split at hw
   ·rename_i t ht
    rw[ht] at hv
    exact wp_cond_split (VR_bool hv) (fun e=>mCode_sound hm hC x _ hc.2.1 _ _ h (hw.1 e) hQ) (fun e=>mCode_sound hm hC y _ hc.2.2 _ _ h (hw.2 e) hQ)
   ·exact hw.elim
  ·cases hc
 | .block i x,c,hc,I,ρ,s,a,w,Qa,Q,h,hw,hQ=>by
  unfold mCode at hc
  split at hc
  ·simp only[Bool.and_eq_true,decide_eq_true_eq] at hc
   obtain⟨rfl,hc⟩:=hc
   rw[wpC] at hw
   refine wp_block (mCode_sound hm hC x _ hc _ _ h hw fun e s' I' ρ' a' w' he hr=>?_)
   cases e with
   | normal=>exact hQ .normal _ _ _ _ _ he hr
   | exit id =>
    simp only[exOf,Exit.inBlock]
    simp only at he
    split
    ·rename_i hid
     rw[if_pos hid] at he
     exact hQ .normal _ _ _ _ _ he hr
    ·rename_i hid
     rw[if_neg hid] at he
     exact hQ (.exit id) _ _ _ _ _ he hr
   | ret=>exact hQ .ret _ _ _ _ _ he hr
  ·cases hc
 | .loop x,c,hc,I,ρ,s,a,w,Qa,Q,h,hw,hQ=>by
  unfold mCode at hc
  split at hc
  ·rename_i y
   rw[wpC] at hw
   obtain⟨n,hn⟩:=hw
   let J:Act→World→Nat→Prop:=fun a w n=>∃ I ρ s,R w0 I0 N I ρ s a w∧iter (wpC C x) n s Qa
   refine wp_loop (fun a w=>∃ n,J a w n) (fun a w=>open Classical in if hx:∃ n,J a w n then Classical.choose (least hx) else 0) ⟨n,I,ρ,s,h,hn⟩ ?_
   intro a w hx
   obtain⟨hp,hmin⟩:=Classical.choose_spec (least hx)
   have hμ:(open Classical in if hx:∃ n,J a w n then Classical.choose (least hx) else 0)=Classical.choose (least hx):=by rw[dif_pos hx]
   rw[hμ]
   generalize Classical.choose (least hx)=m at hp hmin
   obtain⟨I1,ρ1,s1,hr,hit⟩:=hp
   cases m with
   | zero=>exact hit.elim
   | succ m =>
    rw[iter] at hit
    refine mCode_sound hm hC x _ hc _ _ hr hit fun e s' I' ρ' a' w' he hr'=>?_
    cases e with
    | normal =>
     have hx':∃ n,J a' w' n:=⟨m,I',ρ',s',hr',he⟩
     refine⟨hx', ?_⟩
     have:=(Classical.choose_spec (least hx')).2 m ⟨I',ρ',s',hr',he⟩
     rw[dif_pos hx']
     omega
    | exit id=>exact hQ (.exit id) _ _ _ _ _ he hr'
    | ret=>exact hQ .ret _ _ _ _ _ he hr'
  ·cases hc
 | .exit i,c,hc,I,ρ,s,a,w,Qa,Q,h,hw,hQ=>by
  unfold mCode at hc
  split at hc
  ·simp only[decide_eq_true_eq] at hc
   subst hc
   exact wp_exit (hQ (.exit _) _ _ _ _ _ hw h)
  ·cases hc
 | .ret,c,hc,I,ρ,s,a,w,Qa,Q,h,hw,hQ=>by
  unfold mCode at hc
  split at hc
  ·exact wp_ret (hQ .ret _ _ _ _ _ hw h)
  ·cases hc
 | .next x d e fp live,c,hc,I,ρ,s,a,w,Qa,Q,h,hw,hQ=>by
  unfold mCode at hc
  split at hc
  ·rename_i id ops draw
   simp only[Bool.and_eq_true,Bool.not_eq_true'] at hc
   obtain⟨rfl,hc⟩:=hc
   exact next_sound hc h hw hQ
  ·cases hc
 | .nilq x m d live,c,hc,I,ρ,s,a,w,Qa,Q,h,hw,hQ=>by
  unfold mCode at hc
  split at hc
  ·rename_i id ops draw
   simp only[Bool.and_eq_true,Bool.not_eq_true'] at hc
   obtain⟨rfl,hc⟩:=hc
   exact nilq_sound hc h hw hQ
  ·cases hc
def resRun (tmps:Array Value):ResultVar→Sem Value
 | .tmp t=>pure (tmps.getD t undef)
 | .cell a t=>do loadVar t (← asAddr (tmps.getD a undef))
theorem res_run {I:Nat→Prop} {ρ:Nat→Place} {s:St} {a:Act} {w:World} (h:R w0 I0 N I ρ s a w) {r:ResultVar} {ar:ARes} {x:AV} (hm:mRes P r ar=true) (hx:resV s ar=some x) :
  ∃ v,(resRun a.tmps r).run P w=.ok v w∧VR I w (modeOf s ρ) x v:=by
 cases r<;>cases ar<;>simp only[mRes,Bool.false_eq_true] at hm
 ·simp only[decide_eq_true_eq] at hm
  subst hm
  simp only[resV,Option.some.injEq] at hx
  subst hx
  exact⟨_,rfl,h.tm _⟩
 ·simp only[Bool.and_eq_true,decide_eq_true_eq] at hm
  obtain⟨rfl,ht⟩:=hm
  rename_i aa t n agg
  have hv:=h.tm aa
  have h1:=(tIs_spec ht).2.2
  unfold resV at hx
  simp only[] at hx
  split at hx
  ·rename_i b g p hp
   rw[hp] at hv
   split at hx
   ·rename_i k hk
    obtain⟨r,σ,hρ,hav⟩:=h.ptr hk hv
    obtain⟨_,_,_,hok⟩:=h.blk hk
    rw[hρ] at hok
    obtain⟨_,_,_,_,arr,ty,hheap,_,hvs⟩:=hok
    obtain⟨hl,hA,hB⟩:=rd_VR hx hvs h1
    obtain⟨v,hrun,hva,hvb⟩:=run_loadVar' (P:=P) ht hl (rowAt_of_heap hheap k.cs.length p n)
    refine⟨v, ?_, ?_⟩
    ·simp[resRun,hav,asAddr,hrun]
    ·cases agg with
     | true=>rw[hva rfl];exact hA rfl
     | false=>exact hB rfl v (hvb rfl)
   ·cases hx
  ·cases hx
theorem ress_run {I:Nat→Prop} {ρ:Nat→Place} {s:St} {a:Act} {w:World} (h:R w0 I0 N I ρ s a w):∀ {rs:List ResultVar} {as:List ARes} {xs:List AV},mRess P rs as=true→resVs s as=some xs →
  ∃ vs,(rs.mapM (resRun a.tmps)).run P w=.ok vs w∧VRs I w (modeOf s ρ) xs vs
 | [],[],xs,_,hx=>by
  simp only[resVs,Option.some.injEq] at hx
  subst hx
  exact⟨[],by simp,by simp[VRs]⟩
 | [],_::_,xs,hm,_=>by simp[mRess] at hm
 | _::_,[],xs,hm,_=>by simp[mRess] at hm
 | r::rs,ar::as,xs,hm,hx=>by
  simp only[mRess,Bool.and_eq_true] at hm
  unfold resVs at hx
  split at hx
  ·rename_i v vs hv hvs
   cases hx
   obtain⟨u,hu,hr⟩:=res_run h hm.1 hv
   obtain⟨us,hus,hrs⟩:=ress_run h hm.2 hvs
   exact⟨u::us,by simp[List.mapM_cons,hu,hus],by simp only[VRs];exact⟨hr,hrs⟩⟩
  ·cases hx
theorem results_run {I:Nat→Prop} {ρ:Nat→Place} {s:St} {a:Act} {w wb:World} (h:R (Base.plain wb) I0 N I ρ s a w) {fn:Func} {as:List ARes} {r:AV} (hm:mRess P fn.results.toList as=true) (hx:handed s as=some r) :
  ∃ v,(results fn a.tmps).run P w=.ok v w∧Done I0 wb r (.returned v) w:=by
 unfold handed at hx
 split at hx
 ·rename_i vs hvs
  split at hx
  ·rename_i ys fz hp
   cases hx
   obtain⟨us,hrun,hrs⟩:=ress_run h hm hvs
   have hpv:=pureVs_sound h hp hrs
   have hfz:=h.freeze fz
   have hres:results fn a.tmps=(do
     let vs ← fn.results.mapM (resRun a.tmps)
     pure (if h:vs.size=1 then vs[0] else .tuple vs)):=by
    unfold results
    congr 1
   have hrunA:(fn.results.mapM (resRun a.tmps)).run P w=.ok us.toArray w:=by
    rw[Array.mapM_eq_mapM_toList]
    simp[hrun]
   refine⟨if h:us.toArray.size=1 then us.toArray[0] else .tuple us.toArray, ?_, ?_⟩
   ·rw[hres]
    simp[hrunA]
   ·refine⟨_,rfl,Base.plain_below h.below,frzI I ρ s fz,fun b hb=>.inl (h.old b hb),fun b hb=>(hfz.new b hb).elim .inl fun e=>.inr (Base.plain_mine.1 e),hfz.imm, ?_⟩
    have hlen:=hpv.length
    match ys,us,hpv,hlen with
    | [y],[u],hpv,_ =>
     simp only[VRs] at hpv
     simp only[oneOrTup,List.size_toArray,List.length_singleton,dif_pos]
     exact hpv.1
    | [],[],hpv,_ =>
     simp only[oneOrTup,VR]
     exact⟨[],by simp,hpv⟩
    | y::y'::ys,u::u'::us,hpv,_ =>
     simp only[oneOrTup,VR]
     exact⟨_,by simp,hpv⟩
  ·cases hx
 ·cases hx
theorem look_argEnv:∀(args:List AV) (i t:Nat),look (argEnv i args) t=if i≤t then (args[t-i]?).getD .junk else .junk
 | [],i,t=>by simp[argEnv,look]
 | x::args,i,t=>by
  simp only[argEnv,look]
  by_cases h:i=t
  ·subst h;simp
  ·rw[if_neg h,look_argEnv args (i+1) t]
   by_cases h2:i+1≤t
   ·rw[if_pos h2,if_pos (by omega)]
    have:t-i=(t-(i+1))+1:=by omega
    rw[this]
    simp
   ·rw[if_neg h2]
    have:¬ i≤t:=by omega
    rw[if_neg this]
theorem contract_of_run0 (hm:P.follows .mixedOrders=true) (hC:∀ f,Contract P f (C f)) {f:FuncId} {fn:Func} {A:AFun} {sp:List AV→Option AV} (hf:P.funcs[f]? = some fn) (hfun:mFun P fn A=true)
  (hr:∀ args r,sp args=some r→args.length=A.np∧wpC C A.code { t:=argEnv 0 args,h:=[],g:=fun _=>0 } (fin A.res r)):Contract P f sp:=by
 unfold mFun at hfun
 split at hfun
 ·rename_i c hb
  simp only[Bool.and_eq_true,decide_eq_true_eq] at hfun
  obtain⟨hsize,hname,hnt,hnp,hres,hcode⟩:=hfun
  refine Contract.of_plain (Nat.lt_of_lt_of_le (Array.getElem?_eq_some_iff.1 hf).1 hsize) ?_
  intro I w args vs r hsp hvs hI hTab
  refine⟨fun w=>?_, ?_⟩
  ·have : ((fn.name == "runtime.NumGoroutine") = false) := by simpa using hname
   simp only[callFunc,Sem.run_bind,run_program,Result.andThen_ok,hf,this,hb]
   rfl
  ·obtain⟨hlen,hrun⟩:=hr args r hsp
   have hl2:=hvs.length
   refine calls_of_wp hf hb ?_
   have hR:R (Base.plain w) I A.nt I (fun _=>none) ⟨argEnv 0 args,[],fun _=>0⟩ { tmps:=vs.toArray++Array.replicate (fn.ntmps-vs.toArray.size) undef,defers:=[] } w:=by
    refine { defers:=rfl,tab:=hTab,size:=by simp;omega,below:=Base.upto.refl _,imm:=hI,old:=fun _ h=>h,new:=fun _ h=>.inl h,kept:=fun b hb=>hb.elim,tm:=fun t=>?_,hp:=fun b k hk=>by simp[hlook] at hk,inj:=fun b b' k k' r σ σ' hk=>by simp[hlook] at hk }
    rw[look_argEnv]
    simp only[Nat.zero_le,if_true,Nat.sub_zero]
    cases hx:args[t]? with
    | none=>simp[VR]
    | some x =>
     obtain⟨v,hv,hxv⟩:=hvs.get t x hx
     have:(vs.toArray++Array.replicate (fn.ntmps-vs.toArray.size) undef).getD t undef=v:=by
      have ht:t<vs.length:=(List.getElem?_eq_some_iff.1 hv).1
      have hv':vs[t]=v:=(List.getElem?_eq_some_iff.1 hv).2
      have h1:t<(vs.toArray++Array.replicate (fn.ntmps-vs.toArray.size) undef).size:=by simp;omega
      simp only[Array.getD,h1,dif_pos]
      show (vs.toArray++Array.replicate (fn.ntmps-vs.toArray.size) undef)[t]=v
      rw[Array.getElem_append_left (by simpa using ht)]
      simpa using hv'
     rw[this]
     exact VR.mono (fun _ h=>h) (fun _ _ _=>rfl) x v (M:=none) trivial hxv
   refine mCode_sound hm hC A.code c hcode (fin A.res r) _ hR hrun fun e s' I' ρ' a' w' he hr'=>?_
   cases e with
   | normal =>
    obtain⟨v,h1,h2⟩:=results_run hr' (fn:=fn) hres he
    exact⟨hr'.defers,v,h1,h2⟩
   | ret =>
    obtain⟨v,h1,h2⟩:=results_run hr' (fn:=fn) hres he
    exact⟨hr'.defers,v,h1,h2⟩
   | exit id=>exact he.elim
 ·cases hfun
theorem hlook_append (h1 h2:Hp) (b:Nat):hlook (h1++h2) b=(hlook h1 b).or (hlook h2 b):=by
 induction h1 with
 | nil=>simp[hlook]
 | cons p l ih =>
  obtain⟨k,v⟩:=p
  simp only[List.cons_append,hlook]
  split
  ·rfl
  ·exact ih
theorem gresults_run {I I0:Nat→Prop} {ρ ρ0:Nat→Place} {s:St} {a:Act} {w wb:World} {hb0:Hp} (h:R (gbase wb hb0 ρ0) I0 N I ρ s a w) {fn:Func} {as:List ARes} {r:AV} {kept:Bool} {new:Option Nat} {h':Hp} (h2:∀ b k,hlook hb0 b=some k→b<2∨(b=2∧hlook h' 2=none))
  (hm:mRess P fn.results.toList as=true) (hx:ghanded s as kept new=some (r,h')) :
  ∃ v,(results fn a.tmps).run P w=.ok v w∧GDone I0 wb hb0 ρ0 r h' (.returned v) w:=by
 unfold ghanded at hx
 generalize hbs:[if kept=true then 0 else nope,nope,new.getD nope]=bs at *
 generalize hlk:(if kept=true then [0] else ([]:List Nat))=lk at *
 simp only[] at hx
 generalize hfp:s.h.map (·.1)=fp at *
 split at hx
 ·rename_i vs hvs
  split at hx
  ·rename_i ys fz hp0 hp2 hga h0 hn
   split at hx
   ·rename_i hc
    obtain⟨hfz0,hg0,hn0,hnn⟩:=hc
    simp only[Option.some.injEq,Prod.mk.injEq] at hx
    obtain⟨rfl,rfl⟩:=hx
    have hfz:∀ b∈fz,b ∉ bs:=by
     intro b hm
     rw[List.all_eq_true] at hfz0
     simpa using hfz0 b hm
    -- the blocks that are handed back,one by one
    have each:∀ i k,hlook (hp0++hp2) i=some k→∃ b k0,bs[i]? = some b∧hlook s.h b=some k0∧k0.frz=false∧k0.esz≠mapTag∧mapM1 (nrm1 s fp bs) k0.cs=some k.cs∧k.frz=false∧k.esz=k0.esz∧((i=0∧kept=true∧b=0)∨(i=2∧new=some b)):=by
     intro i k hk
     rw[hlook_append] at hk
     cases hk0:hlook hp0 i with
     | some k1 =>
      rw[hk0] at hk
      cases hk
      obtain⟨_,b,k0,e1,e2,e3,e4,e5,e6,e7⟩:=(gblks_spec h0).1 i k hk0
      rw[← hlk] at e1
      cases kept with
      | false=>simp at e1
      | true =>
       simp only[if_true,Nat.sub_zero] at e1
       have hi:i=0:=by
        have:=(List.getElem?_eq_some_iff.1 e1).1
        simp at this
        exact this
       subst hi
       simp at e1
       subst e1
       exact⟨0,k0,by rw[← hbs];simp,e2,e3,e4,e5,e6,e7,.inl ⟨rfl,rfl,rfl⟩⟩
     | none =>
      rw[hk0] at hk
      have hk2:hlook hp2 i=some k:=by simpa using hk
      obtain⟨hi,b,k0,e1,e2,e3,e4,e5,e6,e7⟩:=(gblks_spec hn).1 i k hk2
      cases new with
      | none=>simp at e1
      | some n =>
       simp only[Option.toList_some] at e1
       have hi2:i-2=0:=by
        have:=(List.getElem?_eq_some_iff.1 e1).1
        simp at this
        omega
       rw[hi2] at e1
       simp at e1
       subst e1
       have:i=2:=by omega
       subst this
       exact⟨n,k0,by rw[← hbs];simp,e2,e3,e4,e5,e6,e7,.inr ⟨rfl,rfl⟩⟩
    have near:∀ i k,hlook (hp0++hp2) i=some k→∃ b k0,bs[i]? = some b∧hlook s.h b=some k0∧k.esz=k0.esz:=by
     intro i k hk
     obtain⟨b,k0,e1,e2,_,_,_,_,e7,_⟩:=each i k hk
     exact⟨b,k0,e1,e2,e7⟩
    obtain⟨us,hrun,hrs⟩:=ress_run h hm hvs
    have hpv:=gargs_sound h near _ _ _ _ hga hrs
    have hf:=h.freeze fz
    have hres:results fn a.tmps=(do
      let vs ← fn.results.mapM (resRun a.tmps)
      pure (if h:vs.size=1 then vs[0] else .tuple vs)):=by
     unfold results
     congr 1
    have hrunA:(fn.results.mapM (resRun a.tmps)).run P w=.ok us.toArray w:=by
     rw[Array.mapM_eq_mapM_toList]
     simp[hrun]
    refine⟨if h:us.toArray.size=1 then us.toArray[0] else .tuple us.toArray, ?_, ?_⟩
    ·rw[hres]
     simp[hrunA]
    ·refine⟨_,rfl,frzI I ρ s fz,gpl ρ bs,h.below,fun b hb=>.inl (h.old b hb),hf.new,hf.imm,fun b k k' hk hk'=>?_,⟨fun i k hk=>?_,fun i i' k k' r σ σ' hk hk' hq hq'=>?_⟩, ?_⟩
     ·have hlt:=h2 b k hk
      obtain⟨b1,k0,e1,_,_,_,_,_,_,e8⟩:=each b k' hk'
      rcases e8 with⟨rfl,_,rfl⟩|⟨rfl,_⟩
      ·simp only[gpl,e1]
       exact h.kept 0 ⟨k,hk⟩ hg0
      ·rcases hlt with hlt|⟨_,hlt⟩
       ·omega
       ·rw[hlt] at hk';cases hk'
     ·obtain⟨b,k0,e1,e2,e3,e4,e5,e6,e7,_⟩:=each i k hk
      have hk1:hlook (frzAll fz s.h) b=some k0:=by
       rw[hlook_frzAll,e2]
       simp only[Option.map_some,Option.some.injEq]
       rw[if_neg]
       intro hc
       exact hfz b (by simpa using hc) (List.mem_of_getElem? e1)
      have q1:=hf.hp b k0 hk1
      have q2:=h.hp b k0 e2
      refine⟨e6, ?_⟩
      have hpl:gpl ρ bs i=ρ b:=by simp only[gpl,e1]
      rw[hpl]
      unfold BlkOk at q1 q2 ⊢
      rw[if_neg e4] at q1 q2
      rw[if_neg (by rw[e7];exact e4)]
      revert q1 q2
      unfold BlkC
      cases hq:ρ b with
      | none =>
       intro _ q2
       have e3':k0.cs=[]:=q2
       rw[e3'] at e5
       simp[mapM1] at e5
       show k.cs=[]
       exact e5
      | some p =>
       obtain⟨r,σ⟩:=p
       rintro⟨_,_,f3,_⟩ ⟨f1,⟨_,fT⟩,_,f4,arr,ty,f5,f6,f7⟩
       have hlen:=mapM1_len e5
       refine⟨f1,⟨fun e=>(by rw[e6] at e;cases e),fT.len e7 hlen⟩,fun _=>f3 e3,by omega,arr,ty,f5,f6, ?_⟩
       rw[hlen]
       exact VRs.mono (fun b hb=>.inl hb) (fun _ _ _=>rfl) _ _ (Mode.le_refl _) (mapM1_sound (nrm1_sound h near) _ _ _ e5 f7)
     ·obtain⟨b,k0,e1,e2,_,_,_,_,_,e8⟩:=each i k hk
      obtain⟨b',k0',e1',e2',_,_,_,_,_,e8'⟩:=each i' k' hk'
      simp only[gpl,e1] at hq
      simp only[gpl,e1'] at hq'
      have hbb:=h.inj b b' k0 k0' r σ σ' e2 e2' hq hq'
      subst hbb
      rcases e8 with⟨rfl,_,q⟩|⟨rfl,q⟩<;>rcases e8' with⟨rfl,_,q'⟩|⟨rfl,q'⟩
      ·rfl
      ·subst q;exact absurd q' hn0
      ·subst q';exact absurd q hn0
      ·rfl
     ·have hlen:=hpv.length
      match ys,us,hpv,hlen with
      | [y],[u],hpv,_ =>
       simp only[VRs] at hpv
       simp only[oneOrTup,List.size_toArray,List.length_singleton,dif_pos]
       exact hpv.1
      | [],[],hpv,_ =>
       simp only[oneOrTup,VR]
       exact⟨[],by simp,hpv⟩
      | y::y'::ys,u::u'::us,hpv,_ =>
       simp only[oneOrTup,VR]
       exact⟨_,by simp,hpv⟩
   ·cases hx
  ·cases hx
 ·cases hx
theorem gresults_run2 {I I0:Nat→Prop} {ρ ρ0:Nat→Place} {s:St} {a:Act} {w wb:World} {hb0:Hp} (h:R (gbase wb hb0 ρ0) I0 N I ρ s a w) {fn:Func} {as:List ARes} {r:AV} {kept:Bool} {n1 n2:Option Nat} {h':Hp} (h2:∀ b k,hlook hb0 b=some k→b<2∨(b=2∧hlook h' 2=none))
  (hm:mRess P fn.results.toList as=true) (hx:ghanded2 s as kept n1 n2=some (r,h')) :
  ∃ v,(results fn a.tmps).run P w=.ok v w∧GDone I0 wb hb0 ρ0 r h' (.returned v) w:=by
 unfold ghanded2 at hx
 generalize hbs:[if kept=true then 0 else nope,nope,nope,n1.getD nope,n2.getD nope]=bs at *
 generalize hlk:(if kept=true then [0] else ([]:List Nat))=lk at *
 simp only[] at hx
 generalize hfp:s.h.map (·.1)=fp at *
 split at hx
 ·rename_i vs hvs
  split at hx
  ·rename_i ys fz hp0 hp3 hp4 hga h0 hn hm4
   split at hx
   ·rename_i hc
    obtain⟨hfz0,hg0,hn0,hn0',hnn⟩:=hc
    simp only[Option.some.injEq,Prod.mk.injEq] at hx
    obtain⟨rfl,rfl⟩:=hx
    have hfz:∀ b∈fz,b ∉ bs:=by
     intro b hm
     rw[List.all_eq_true] at hfz0
     simpa using hfz0 b hm
    -- the blocks that are handed back,one by one
    have one:∀(n:Option Nat) (c:Nat) (hp:Hp),gblks s fp bs n.toList c=some hp→(∀ b,n=some b→bs[c]? = some b)→∀ i k,hlook hp i=some k→∃ b k0,bs[i]? = some b∧hlook s.h b=some k0∧k0.frz=false∧k0.esz≠mapTag∧mapM1 (nrm1 s fp bs) k0.cs=some k.cs∧k.frz=false∧k.esz=k0.esz∧i=c∧n=some b:=by
     intro n c hp hgb hbc i k hk2
     obtain⟨hi,b,k0,e1,e2,e3,e4,e5,e6,e7⟩:=(gblks_spec hgb).1 i k hk2
     cases n with
     | none=>simp at e1
     | some m =>
      simp only[Option.toList_some] at e1
      have hi2:i-c=0:=by
       have:=(List.getElem?_eq_some_iff.1 e1).1
       simp at this
       omega
      rw[hi2] at e1
      simp at e1
      subst e1
      have:i=c:=by omega
      subst this
      exact⟨m,k0,hbc m rfl,e2,e3,e4,e5,e6,e7,rfl,rfl⟩
    have each:∀ i k,hlook (hp0++hp3++hp4) i=some k→∃ b k0,bs[i]? = some b∧hlook s.h b=some k0∧k0.frz=false∧k0.esz≠mapTag∧mapM1 (nrm1 s fp bs) k0.cs=some k.cs∧k.frz=false∧k.esz=k0.esz∧((i=0∧kept=true∧b=0)∨(i=3∧n1=some b)∨(i=4∧n2=some b)):=by
     intro i k hk
     rw[hlook_append,hlook_append] at hk
     cases hk0:hlook hp0 i with
     | some k1 =>
      rw[hk0] at hk
      cases hk
      obtain⟨_,b,k0,e1,e2,e3,e4,e5,e6,e7⟩:=(gblks_spec h0).1 i k hk0
      rw[← hlk] at e1
      cases kept with
      | false=>simp at e1
      | true =>
       simp only[if_true,Nat.sub_zero] at e1
       have hi:i=0:=by
        have:=(List.getElem?_eq_some_iff.1 e1).1
        simp at this
        exact this
       subst hi
       simp at e1
       subst e1
       exact⟨0,k0,by rw[← hbs];simp,e2,e3,e4,e5,e6,e7,.inl ⟨rfl,rfl,rfl⟩⟩
     | none =>
      rw[hk0] at hk
      cases hk3:hlook hp3 i with
      | some k1 =>
       rw[hk3] at hk
       cases hk
       obtain⟨b,k0,e1,e2,e3,e4,e5,e6,e7,e8,e9⟩:=one n1 3 hp3 hn (fun b hb=>by rw[← hbs,hb];rfl) i k hk3
       exact⟨b,k0,e1,e2,e3,e4,e5,e6,e7,.inr (.inl ⟨e8,e9⟩)⟩
      | none =>
       rw[hk3] at hk
       have hk4:hlook hp4 i=some k:=by simpa using hk
       obtain⟨b,k0,e1,e2,e3,e4,e5,e6,e7,e8,e9⟩:=one n2 4 hp4 hm4 (fun b hb=>by rw[← hbs,hb];rfl) i k hk4
       exact⟨b,k0,e1,e2,e3,e4,e5,e6,e7,.inr (.inr ⟨e8,e9⟩)⟩
    have near:∀ i k,hlook (hp0++hp3++hp4) i=some k→∃ b k0,bs[i]? = some b∧hlook s.h b=some k0∧k.esz=k0.esz:=by
     intro i k hk
     obtain⟨b,k0,e1,e2,_,_,_,_,e7,_⟩:=each i k hk
     exact⟨b,k0,e1,e2,e7⟩
    obtain⟨us,hrun,hrs⟩:=ress_run h hm hvs
    have hpv:=gargs_sound h near _ _ _ _ hga hrs
    have hf:=h.freeze fz
    have hres:results fn a.tmps=(do
      let vs ← fn.results.mapM (resRun a.tmps)
      pure (if h:vs.size=1 then vs[0] else .tuple vs)):=by
     unfold results
     congr 1
    have hrunA:(fn.results.mapM (resRun a.tmps)).run P w=.ok us.toArray w:=by
     rw[Array.mapM_eq_mapM_toList]
     simp[hrun]
    refine⟨if h:us.toArray.size=1 then us.toArray[0] else .tuple us.toArray, ?_, ?_⟩
    ·rw[hres]
     simp[hrunA]
    ·refine⟨_,rfl,frzI I ρ s fz,gpl ρ bs,h.below,fun b hb=>.inl (h.old b hb),hf.new,hf.imm,fun b k k' hk hk'=>?_,⟨fun i k hk=>?_,fun i i' k k' r σ σ' hk hk' hq hq'=>?_⟩, ?_⟩
     ·have hlt:=h2 b k hk
      obtain⟨b1,k0,e1,_,_,_,_,_,_,e8⟩:=each b k' hk'
      rcases e8 with⟨rfl,_,rfl⟩|⟨rfl,_⟩|⟨rfl,_⟩
      ·simp only[gpl,e1]
       exact h.kept 0 ⟨k,hk⟩ hg0
      ·rcases hlt with hlt|⟨hlt,_⟩<;>omega
      ·rcases hlt with hlt|⟨hlt,_⟩<;>omega
     ·obtain⟨b,k0,e1,e2,e3,e4,e5,e6,e7,_⟩:=each i k hk
      have hk1:hlook (frzAll fz s.h) b=some k0:=by
       rw[hlook_frzAll,e2]
       simp only[Option.map_some,Option.some.injEq]
       rw[if_neg]
       intro hc
       exact hfz b (by simpa using hc) (List.mem_of_getElem? e1)
      have q1:=hf.hp b k0 hk1
      have q2:=h.hp b k0 e2
      refine⟨e6, ?_⟩
      have hpl:gpl ρ bs i=ρ b:=by simp only[gpl,e1]
      rw[hpl]
      unfold BlkOk at q1 q2 ⊢
      rw[if_neg e4] at q1 q2
      rw[if_neg (by rw[e7];exact e4)]
      revert q1 q2
      unfold BlkC
      cases hq:ρ b with
      | none =>
       intro _ q2
       have e3':k0.cs=[]:=q2
       rw[e3'] at e5
       simp[mapM1] at e5
       show k.cs=[]
       exact e5
      | some p =>
       obtain⟨r,σ⟩:=p
       rintro⟨_,_,f3,_⟩ ⟨f1,⟨_,fT⟩,_,f4,arr,ty,f5,f6,f7⟩
       have hlen:=mapM1_len e5
       refine⟨f1,⟨fun e=>(by rw[e6] at e;cases e),fT.len e7 hlen⟩,fun _=>f3 e3,by omega,arr,ty,f5,f6, ?_⟩
       rw[hlen]
       exact VRs.mono (fun b hb=>.inl hb) (fun _ _ _=>rfl) _ _ (Mode.le_refl _) (mapM1_sound (nrm1_sound h near) _ _ _ e5 f7)
     ·obtain⟨b,k0,e1,e2,_,_,_,_,_,e8⟩:=each i k hk
      obtain⟨b',k0',e1',e2',_,_,_,_,_,e8'⟩:=each i' k' hk'
      simp only[gpl,e1] at hq
      simp only[gpl,e1'] at hq'
      have hbb:=h.inj b b' k0 k0' r σ σ' e2 e2' hq hq'
      subst hbb
      rcases e8 with⟨rfl,_,q⟩|⟨rfl,q⟩|⟨rfl,q⟩<;>rcases e8' with⟨rfl,_,q'⟩|⟨rfl,q'⟩|⟨rfl,q'⟩
      ·rfl
      ·subst q;exact absurd q' hn0
      ·subst q;exact absurd q' hn0'
      ·subst q';exact absurd q hn0
      ·rfl
      ·rcases hnn with hnn|hnn
       ·rw[q] at hnn;cases hnn
       ·exact absurd (q.trans q'.symm) hnn
      ·subst q';exact absurd q hn0'
      ·rcases hnn with hnn|hnn
       ·rw[q'] at hnn;cases hnn
       ·exact absurd (q'.trans q.symm) hnn
      ·rfl
     ·have hlen:=hpv.length
      match ys,us,hpv,hlen with
      | [y],[u],hpv,_ =>
       simp only[VRs] at hpv
       simp only[oneOrTup,List.size_toArray,List.length_singleton,dif_pos]
       exact hpv.1
      | [],[],hpv,_ =>
       simp only[oneOrTup,VR]
       exact⟨[],by simp,hpv⟩
      | y::y'::ys,u::u'::us,hpv,_ =>
       simp only[oneOrTup,VR]
       exact⟨_,by simp,hpv⟩
   ·cases hx
  ·cases hx
 ·cases hx
theorem ghanded_frz {s:St} {rs:List ARes} {kept:Bool} {new:Option Nat} {r:AV} {h:Hp} (hx:ghanded s rs kept new=some (r,h)):(h.all fun p => !p.2.frz)=true:=by
 unfold ghanded at hx
 generalize [if kept=true then 0 else nope,nope,new.getD nope]=bs at *
 generalize (if kept=true then [0] else ([]:List Nat))=lk at *
 simp only[] at hx
 split at hx
 ·split at hx
  ·rename_i h0 hn
   split at hx
   ·simp only[Option.some.injEq,Prod.mk.injEq] at hx
    obtain⟨_,rfl⟩:=hx
    rw[List.all_append,gblks_frz h0,gblks_frz hn]
    rfl
   ·cases hx
  ·cases hx
 ·cases hx
theorem gcontract_of_run (hm:P.follows .mixedOrders=true) (hC:∀ f,Contract P f (C f)) {f:FuncId} {fn:Func} {A:AFun} {sp:List AV→Option AV} (hf:P.funcs[f]? = some fn) (hfun:mFun P fn A=true)
  (hr:∀ args h r h',(h.all fun p => !p.2.frz)=true→(h'.all fun p => !p.2.frz)=true→sp (args++[.tup (encs h)])=some (.tup (r::encs h'))→args.length=A.np∧∃ kept,wpC C A.code { t:=argEnv 0 args,h:=h,g:=fun _=>0 } (gfin A.res kept r h')):Contract P (gBase+f) sp:=by
 refine Contract.of_gate ?_
 unfold mFun at hfun
 split at hfun
 ·rename_i c hb
  simp only[Bool.and_eq_true,decide_eq_true_eq] at hfun
  obtain⟨hsize,hname,hnt,hnp,hres,hcode⟩:=hfun
  intro I w args vs r h h' ρ hsp hfrz hfrz' hvs h2 hgate hI hTab
  refine⟨fun w=>?_, ?_⟩
  ·have : ((fn.name == "runtime.NumGoroutine") = false) := by simpa using hname
   simp only[callFunc,Sem.run_bind,run_program,Result.andThen_ok,hf,this,hb]
   rfl
  ·obtain⟨hlen,kept,hrun⟩:=hr args h r h' hfrz hfrz' hsp
   have hl2:=hvs.length
   refine calls_of_wp hf hb ?_
   have hR:R (gbase w h ρ) I A.nt I ρ ⟨argEnv 0 args,h,fun _=>0⟩ { tmps:=vs.toArray++Array.replicate (fn.ntmps-vs.toArray.size) undef,defers:=[] } w:=by
    refine { defers:=rfl,tab:=hTab,size:=by simp;omega,below:=Base.upto.refl _,imm:=hI,old:=fun _ h=>h,new:=fun _ h=>.inl h,kept:=fun b _ _=>rfl,tm:=fun t=>?_,hp:=fun b k hk=>(hgate.ok b k hk).2,inj:=hgate.inj }
    rw[look_argEnv]
    simp only[Nat.zero_le,if_true,Nat.sub_zero]
    cases hx:args[t]? with
    | none=>simp[VR]
    | some x =>
     obtain⟨v,hv,hxv⟩:=hvs.get t x hx
     have:(vs.toArray++Array.replicate (fn.ntmps-vs.toArray.size) undef).getD t undef=v:=by
      have ht:t<vs.length:=(List.getElem?_eq_some_iff.1 hv).1
      have hv':vs[t]=v:=(List.getElem?_eq_some_iff.1 hv).2
      have h1:t<(vs.toArray++Array.replicate (fn.ntmps-vs.toArray.size) undef).size:=by simp;omega
      simp only[Array.getD,h1,dif_pos]
      show (vs.toArray++Array.replicate (fn.ntmps-vs.toArray.size) undef)[t]=v
      rw[Array.getElem_append_left (by simpa using ht)]
      simpa using hv'
     rw[this]
     exact hxv
   refine mCode_sound hm hC A.code c hcode (gfin A.res kept r h') _ hR hrun fun e s' I' ρ' a' w' he hr'=>?_
   cases e with
   | normal =>
    obtain⟨new,he⟩:=he
    obtain⟨v,h1,h2⟩:=gresults_run hr' (fn:=fn) h2 hres he
    exact⟨hr'.defers,v,h1,h2⟩
   | ret =>
    obtain⟨new,he⟩:=he
    obtain⟨v,h1,h2⟩:=gresults_run hr' (fn:=fn) h2 hres he
    exact⟨hr'.defers,v,h1,h2⟩
   | exit id=>exact he.elim
 ·cases hfun
theorem gcontract_of_run2 (hm:P.follows .mixedOrders=true) (hC:∀ f,Contract P f (C f)) {f:FuncId} {fn:Func} {A:AFun} {sp:List AV→Option AV} (hf:P.funcs[f]? = some fn) (hfun:mFun P fn A=true)
  (hr:∀ args h r h',(h.all fun p => !p.2.frz)=true→(h'.all fun p => !p.2.frz)=true→sp (args++[.tup (encs h)])=some (.tup (r::encs h'))→args.length=A.np∧∃ kept,wpC C A.code { t:=argEnv 0 args,h:=h,g:=fun _=>0 } (gfin2 A.res kept r h')):Contract P (gBase+f) sp:=by
 refine Contract.of_gate ?_
 unfold mFun at hfun
 split at hfun
 ·rename_i c hb
  simp only[Bool.and_eq_true,decide_eq_true_eq] at hfun
  obtain⟨hsize,hname,hnt,hnp,hres,hcode⟩:=hfun
  intro I w args vs r h h' ρ hsp hfrz hfrz' hvs h2 hgate hI hTab
  refine⟨fun w=>?_, ?_⟩
  ·have : ((fn.name == "runtime.NumGoroutine") = false) := by simpa using hname
   simp only[callFunc,Sem.run_bind,run_program,Result.andThen_ok,hf,this,hb]
   rfl
  ·obtain⟨hlen,kept,hrun⟩:=hr args h r h' hfrz hfrz' hsp
   have hl2:=hvs.length
   refine calls_of_wp hf hb ?_
   have hR:R (gbase w h ρ) I A.nt I ρ ⟨argEnv 0 args,h,fun _=>0⟩ { tmps:=vs.toArray++Array.replicate (fn.ntmps-vs.toArray.size) undef,defers:=[] } w:=by
    refine { defers:=rfl,tab:=hTab,size:=by simp;omega,below:=Base.upto.refl _,imm:=hI,old:=fun _ h=>h,new:=fun _ h=>.inl h,kept:=fun b _ _=>rfl,tm:=fun t=>?_,hp:=fun b k hk=>(hgate.ok b k hk).2,inj:=hgate.inj }
    rw[look_argEnv]
    simp only[Nat.zero_le,if_true,Nat.sub_zero]
    cases hx:args[t]? with
    | none=>simp[VR]
    | some x =>
     obtain⟨v,hv,hxv⟩:=hvs.get t x hx
     have:(vs.toArray++Array.replicate (fn.ntmps-vs.toArray.size) undef).getD t undef=v:=by
      have ht:t<vs.length:=(List.getElem?_eq_some_iff.1 hv).1
      have hv':vs[t]=v:=(List.getElem?_eq_some_iff.1 hv).2
      have h1:t<(vs.toArray++Array.replicate (fn.ntmps-vs.toArray.size) undef).size:=by simp;omega
      simp only[Array.getD,h1,dif_pos]
      show (vs.toArray++Array.replicate (fn.ntmps-vs.toArray.size) undef)[t]=v
      rw[Array.getElem_append_left (by simpa using ht)]
      simpa using hv'
     rw[this]
     exact hxv
   refine mCode_sound hm hC A.code c hcode (gfin2 A.res kept r h') _ hR hrun fun e s' I' ρ' a' w' he hr'=>?_
   cases e with
   | normal =>
    obtain⟨n1,n2,he⟩:=he
    obtain⟨v,h1,h2⟩:=gresults_run2 hr' (fn:=fn) h2 hres he
    exact⟨hr'.defers,v,h1,h2⟩
   | ret =>
    obtain⟨n1,n2,he⟩:=he
    obtain⟨v,h1,h2⟩:=gresults_run2 hr' (fn:=fn) h2 hres he
    exact⟨hr'.defers,v,h1,h2⟩
   | exit id=>exact he.elim
 ·cases hfun
theorem contract_of_runs (hm:P.follows .mixedOrders=true) (hC:∀ f,Contract P f (C f)) {f:FuncId} {fn:Func} {A:AFun} {sp:List AV→Option AV} (hf:P.funcs[f]? = some fn) (hfun:mFun P fn A=true)
  (hr:∀ args r,sp args=some r→Runs C A args r):Contract P f sp :=
 contract_of_run0 hm hC hf hfun fun args r h=>⟨(hr args r h).1,(hr args r h).2 _⟩
def tbl:List (Nat×(List AV→Option AV))→Cs
 | [],_,_=>none
 | (k,g)::l,f,args=>if f=k then g args else tbl l f args
theorem contract_none {f:Nat} {sp:List AV→Option AV} (h:∀ args,sp args=none):Contract P f sp:=by
 unfold Contract
 split
 ·intro I w args vs r h';rw[h] at h';cases h'
 ·split
  ·intro t h';rw[h] at h';cases h'
  ·split
   ·intro t u h';rw[h] at h';cases h'
   ·intro I w args vs r h1 h2 ρ h';rw[h] at h';cases h'
theorem tbl_nil (f:Nat):Contract P f (tbl [] f):=contract_none fun _=>rfl
theorem tbl_cons {k:Nat} {g:List AV→Option AV} {l:List (Nat×(List AV→Option AV))} (h:Contract P k g) (hl:∀ f,Contract P f (tbl l f)) (f:Nat):Contract P f (tbl ((k,g)::l) f):=by
 by_cases e:f=k
 ·subst e
  exact h.less fun args r hs=>by simpa [tbl] using hs
 ·exact (hl f).less fun args r hs=>by simpa [tbl,e] using hs
end
end Go.Am
