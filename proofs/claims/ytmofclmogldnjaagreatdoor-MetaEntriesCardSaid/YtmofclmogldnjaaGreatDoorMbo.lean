/- Part. -/
import Derived.Test.YtmofclmogldnjaaGreatDoorMbn
set_option maxRecDepth 999999
set_option maxHeartbeats 0
set_option linter.all false
section
namespace Go.Cm
attribute [local instance] wi0
variable {P:Program} {R:Option Nat} {F:ZaQ} {ops:Array Oper} {nt:Nat} {e e':Env} {h h':H} {g g0:G} {a:Act} {w w0:World}
section
variable {s:List Snap} {st:Nat->Env×H} (hp:Pl ops) (ht:Tr P F nt ops (sch ops) s st) (hz:st 0=(e,h)) (hl:st (sch ops).length=(e',h'))
 (hF:Zcv P F) (hN:ZHL F) (hck: ∀x∈s,ZJ1 ops P F (ZHf ops s h') e' x=true)
include hp ht hz hl
theorem ZLH {listed:Array Bool} (hsz:listed.size=ops.size) (hr:Region.ready .any ops listed=[]): ∀i,i<ops.size->listed.getD i false=true:=fun i hi=>by
 cases hh:listed.getD i false with
 | true=>rfl
 | false=>
   exfalso;obtain ⟨j,j1,j2,j3⟩:=Am.Zmv (fun i=>listed.getD i false) ops.size ⟨i,hi,hh⟩;have ho:ops[j]? =some (ops[j]'j1):=Array.getElem?_eq_getElem _;have hok:=hp.an j j1;unfold ZMO at hok;rw [ho] at hok;simp only [Yb] at hok;have:j∈Region.ready .any ops listed:=mem_ready.2 ⟨?_,_,ho,fun ed he hb=>?_⟩
   · rw [hr] at this;cases this
   · have hjs:j<listed.size:=by omega
     simp only [Array.getD,hjs,dif_pos] at j2⊢;exact j2
   · have:=List.all_eq_true.1 hok.1 ed (by simpa using he);simp only [hb,Bool.not_true,Bool.false_or,Nat.blt_eq] at this;exact j3 _ this
theorem ZMh {L:Nat->Bool} {E:Env} (inv:Inv P F nt ops s st e e' h' g0 w0 L E g a w) (hall: ∀i,i<ops.size->L i=true):EnvR g e' a/\HR g h' w:=by
 have hE: ∀t:Nat,E.get t=e'.get t:=fun t=>by
  by_cases hw: ∃j,ZHl ops j=some t
  ·obtain ⟨j,hj⟩:=hw;exact inv.ep1 t j hj (hall j (ZIG hj))
  ·have hn: ∀j,ZHl ops j≠some t:=fun j hj=>hw ⟨j,hj⟩;rw [inv.ep2 t fun j hj=>absurd hj (hn j)];have:=ZLl hp ht hz hl (p:=(sch ops).length) hn (Yc _);rw [hl] at this;exact this.symm
 obtain ⟨hc,h1,h2⟩:=inv.hr;have hcnt:cE ops L=cntE ops (sch ops) (sch ops).length:=by
  unfold cE cntE;rw [List.take_length,hp.fi];congr 1;refine List.filter_eq_self.2 fun k hk=>hall k ?_;have:=(List.mem_filter.1 hk).1;simpa using this
 have hlast:=ht.heaps (h':=h') (sch ops).length (Yc _) 0;have hdrop:s.drop (sch ops).length=[]:=by rw [List.drop_of_length_le];rw [ht.len];exact Yc _
 rw [Nat.add_zero,<-hcnt,h1,hdrop] at hlast;simp only [ZHf,Yi,Ye] at hlast;subst hlast;exact ⟨⟨inv.env.1,fun t v hv=>inv.env.2 t v (by rw [hE t];exact hv)⟩,h2⟩
theorem ZLo {L:Nat->Bool} {E:Env} (inv:Inv P F nt ops s st e e' h' g0 w0 L E g a w) (hall: ∀i,i<ops.size->L i=true) {Q:Act->World->Prop} (hD:Done nt e' h' g0 w0 Q):Q a w:=by
 obtain ⟨h1,h2⟩:=ZMh hp ht hz hl inv hall;exact hD a w g h1 inv.sz h2 inv.le inv.gr
include hF hN hck
theorem ZMJ (hg0:HR g0 h w0) {Q:Exit->Act->World->Prop} (hD:Done nt e' h' g0 w0 (Q .normal)): ∀(fuel:Nat) (listed:Array Bool) {E:Env} {g:G} {a:Act} {w:World},
   listed.size=ops.size->(∀(k:Nat) (o:Oper),ops[k]? =some o->listed.getD k false=true-> ∀ed∈o.after,Region.binds .any ed=true->listed.getD ed.on false=true)->listed.toList.count false<=fuel->
   Inv P F nt ops s st e e' h' g0 w0 (fun i=>listed.getD i false) E g a w->wpAnyIn (FR R) 0 P .any ops Q fuel listed a w:=by
 intro fuel
 induction fuel with
 | zero=>
   intro listed E g a w hsz hcl hc inv;have hall: ∀i,i<ops.size->listed.getD i false=true:=fun i hi=>by
     have his:i<listed.size:=by omega
     simp only [Array.getD,his,dif_pos];cases hb:listed[i] with
     | true=>simp [hb]
     | false=>
       exfalso;have:0<listed.toList.count false:=List.count_pos_iff.2 (by rw [<-hb];simp);omega
   refine ⟨?_,ZLo hp ht hz hl inv hall hD⟩;refine List.eq_nil_iff_forall_not_mem.2 fun j hj=>?_;obtain ⟨h0,o,ho,_⟩:=mem_ready.1 hj;have hjl:=(Array.getElem?_eq_some_iff.1 ho).1;have:=hall j hjl;have hjs:j<listed.size:=by omega
   simp only [Array.getD,hjs,dif_pos] at h0 this;rw [h0] at this;cases this
 | succ fuel ih=>
   intro listed E g a w hsz hcl hc inv;refine ⟨fun hr=>ZLo hp ht hz hl inv (ZLH hp ht hz hl hsz hr) hD,fun j hj=>?_⟩;obtain ⟨hj0,o,ho,hdep⟩:=mem_ready.1 hj;have hjl:=(Array.getElem?_eq_some_iff.1 ho).1;have hjs:j<listed.size:=by omega
   have hj0':listed.getD j false=false:=by
     simp only [Array.getD,hjs,dif_pos] at hj0⊢;exact hj0
   refine ZJz hp ht hz hl hF hN hck inv hg0 (fun k o hk hL=>hcl k o hk hL) ho hj0' hdep fun v w' E' g' inv' _ _=>?_;have hL:(fun k=>listed.getD k false||k==j)=fun k=>(listed.setIfInBounds j true).getD k false:=by
     funext k
     by_cases hkj:j=k
     · subst hkj;simp [Array.getD,hjs]
     · rw [getD_set_ne false hkj];have:(k==j)=false:=by simp;omega
       rw [this,Bool.or_false]
   rw [hL] at inv';refine ih _ (by simpa using hsz) (fun k o2 ho2 hk ed he hb=>?_) ?_ inv'
   · refine getD_set_true ?_;by_cases hkj:j=k
     · subst hkj;rw [ho] at ho2;cases ho2;exact hdep ed he hb
     · rw [getD_set_ne false hkj] at hk;exact hcl k o2 ho2 hk ed he hb
   · have hlj:listed.toList[j]? =some false:=by
       simp only [Array.getD,hjs,dif_pos] at hj0;have:listed[j]=false:=hj0;rw [<-this];simp
     rw [Array.toList_setIfInBounds];have:=Am.Zt0 hlj;omega
end
theorem ZIQ {x:Env×H} (hx:runD ops P F nt e h=some x):Pl ops/\P.follows .mixedOrders=true/\ ∃s st,st 0=(e,h)/\st (sch ops).length=x/\Tr P F nt ops (sch ops) s st/\ ∀y∈s,ZJ1 ops P F (ZHf ops s x.2) x.1 y=true:=by
 unfold runD at hx;split at hx
 ·rename_i hc;rw [Yb] at hc;split at hx
  ·rename_i s e' h' hr;split at hx
   ·rename_i hall;cases hx;obtain ⟨st,t1,t2,t3⟩:=ZMe _ hr;exact ⟨ZKM hc.1,hc.2,s,st,t1,t2,t3,fun y hy=>List.all_eq_true.1 hall y hy⟩
   ·cases hx
  ·cases hx
 ·cases hx
theorem ZJC (hN:ZHL F) {x:Env×H} (hx:runD ops P F nt e h=some x):h.next<=x.2.next:=by
 obtain ⟨_,_,s,st,t1,t2,t3,_⟩:=ZIQ hx;have:=t3.mono hN (Yd _) (Yc _);rw [t1,t2] at this;exact this
theorem ZKN (hF:Zcv P F) (hN:ZHL F) (hh:HR g h w) (he:EnvR g e a) (hs:nt<=a.tmps.size) (hx:runD ops P F nt e h=some (e',h')) {id:Nat} {Q:Exit->Act->World->Prop} (hD:Done nt e' h' g w (Q .normal)):
  (Code.region id ops true).wpIn (FR R) 0 P Q a w:=by
 obtain ⟨hp,hfol,s,st,hz,hl,ht,hck⟩:=ZIQ hx;refine wpIn_region_any hfol ?_;have hh':HR g h {w with drawn:=w.drawn+1}:=hh.sameHeap rfl;have hD':Done nt e' h' g {w with drawn:=w.drawn+1} (Q .normal):=hD.next (Le.refl g) ⟨rfl,rfl,rfl,Yc _,fun _ _ _=>rfl,fun b hb=> .inl ⟨b,hb,rfl⟩,fun _ _=>rfl⟩;have hgetD: ∀i,(Array.replicate ops.size false).getD i false=false:=fun i=>by
  simp only [Array.getD];split
  ·simp
  ·rfl
 obtain ⟨q,q1,q2,q3,q4,_⟩:=ht.heap (h':=h') (by rw [hl]) (sch ops).length 0 Zo;refine ZMJ hp ht hz hl hF hN hck hh' hD' ops.size (Array.replicate ops.size false) (E:=e) (g:=g.up (st q).2.next) Zs (fun k o _ hk=>by rw [hgetD] at hk;cases hk) (by simp [List.count_replicate]) ?_;have hcnt:cE ops (fun i=>(Array.replicate ops.size false).getD i false)=0:=by
  unfold cE;rw [List.length_eq_zero_iff,List.filter_eq_nil_iff];intro k _;rw [hgetD];simp
 have h0:HR g (st 0).2 {w with drawn:=w.drawn+1}:=by rw [hz];exact hh'
 have hgh:=ZLv ht h0 (Yd q) q2 fun r i _ h2 h3=>q4 r i (Yd _) h2 h3;have hle: ∀b,b<=(sch ops).length->h.next<=(st b).2.next:=fun b hb=>by
  have:=ht.mono hN (Yd _) hb;rw [hz] at this;exact this
 refine ⟨⟨_,by rw [hcnt];rw [List.drop_zero] at q3;exact q3,hgh⟩,he.mono (ZIz _ _),fun t j _ hL=>?_,fun t _=>rfl,hs,⟨ZIz _ _,?_,fun b hb=> .inl hb,rfl⟩,(Grew.refl _ _).up _,fun p i o hpos _ _ _ _ hex=>?_⟩
 ·rw [hgetD] at hL;cases hL
 ·show g.top<=(st q).2.next;rw [hh.top];exact hle q q2
 ·have h1:=hh.nx _ hex;have:=hle p (by have:=Am.Zaq hpos;omega);omega
end Go.Cm
end
