/- Part. -/
import Derived.Test.YtmofclmogldnjaaGreatDoorCbn
set_option maxRecDepth 999999
set_option maxHeartbeats 0
set_option linter.all false
def yV:=@List.mem_cons_of_mem
def yX:=@Option.isNone_iff_eq_none
def xI:=@List.length_eq_zero_iff
section
namespace Go.Cm
attribute [local instance] wi0
variable {P:Program} {R:Option Nat} {F:ZaQ} {ops:Array Oper} {nt:Nat} {e e':Env} {h h':H} {g g0:G} {a:Act} {w w0:World}
section
variable {s:List Snap} {st:Nat->Env×H} (hp:Pl ops) (ht:Tr P F nt ops (sch ops) s st) (hz:st 0=(e,h)) (hl:st (sch ops).length=(e',h'))
 (hF:Zcv P F) (hN:ZHz F) (hck: ∀x∈s,ZJs ops P F (ZHg ops s h') e' x=true)
include hp ht hz hl
theorem ZK0 {listed:Array Bool} (hsz:listed.size=ops.size) (hr:Region.ready .any ops listed=[]): ∀i,i<ops.size->listed.getD i false=true:=fun i hi=>by
 cases hh:listed.getD i false with
 | true=>rfl
 | false=>
   exfalso;obtain ⟨j,j1,j2,j3⟩:=Am.Zmv (fun i=>listed.getD i false) ops.size ⟨i,hi,hh⟩;have ho:ops[j]? =some (ops[j]'j1):=qN _;have hok:=hp.an j j1;unfold ZMA at hok;rw [ho] at hok;simp only [qH] at hok;have:j∈Region.ready .any ops listed:=mem_ready.2 ⟨?_,_,ho,fun ed he hb=>?_⟩
   · rw [hr] at this;cases this
   · have hjs:j<listed.size:=by omega
     simp only [Array.getD,hjs,dif_pos] at j2⊢;exact j2
   · have:=List.all_eq_true.1 hok.1 ed (by simpa using he);simp only [hb,yA,kE,jA] at this;exact j3 _ this
theorem ZL3 {L:Nat->Bool} {E:Env} (inv:Inv P F nt ops s st e e' h' g0 w0 L E g a w) (hall: ∀i,i<ops.size->L i=true):EnvR g e' a/\HR g h' w:=by
 have hE: ∀t:Nat,E.get t=e'.get t:=fun t=>by
  by_cases hw: ∃j,ZHi ops j=some t
  ·obtain ⟨j,hj⟩:=hw;exact inv.ep1 t j hj (hall j (ZIi hj))
  ·have hn: ∀j,ZHi ops j≠some t:=fun j hj=>hw ⟨j,hj⟩;rw [inv.ep2 t fun j hj=>absurd hj (hn j)];have:=ZLn hp ht hz hl (p:=(sch ops).length) hn (qG _);rw [hl] at this;exact this.symm
 obtain ⟨hc,h1,h2⟩:=inv.hr;have hcnt:cE ops L=cntE ops (sch ops) (sch ops).length:=by
  unfold cE cntE;rw [List.take_length,hp.fi];congr 1;refine List.filter_eq_self.2 fun k hk=>hall k ?_;have:=(List.mem_filter.1 hk).1;simpa using this
 have hlast:=ht.heaps (h':=h') (sch ops).length (qG _) 0;have hdrop:s.drop (sch ops).length=[]:=by rw [jQ];rw [ht.len];exact qG _
 rw [jL,<-hcnt,h1,hdrop] at hlast;simp only [ZHg,kF,qB] at hlast;subst hlast;exact ⟨⟨inv.env.1,fun t v hv=>inv.env.2 t v (by rw [hE t];exact hv)⟩,h2⟩
theorem ZLz {L:Nat->Bool} {E:Env} (inv:Inv P F nt ops s st e e' h' g0 w0 L E g a w) (hall: ∀i,i<ops.size->L i=true) {Q:Act->World->Prop} (hD:Done nt e' h' g0 w0 Q):Q a w:=by
 obtain ⟨h1,h2⟩:=ZL3 hp ht hz hl inv hall;exact hD a w g h1 inv.sz h2 inv.le inv.gr
include hF hN hck
theorem ZMY (hg0:HR g0 h w0) {Q:Exit->Act->World->Prop} (hD:Done nt e' h' g0 w0 (Q .normal)): ∀(fuel:Nat) (listed:Array Bool) {E:Env} {g:G} {a:Act} {w:World},
   listed.size=ops.size->(∀(k:Nat) (o:Oper),ops[k]? =some o->listed.getD k false=true-> ∀ed∈o.after,Region.binds .any ed=true->listed.getD ed.on false=true)->listed.toList.count false<=fuel->
   Inv P F nt ops s st e e' h' g0 w0 (fun i=>listed.getD i false) E g a w->wpAnyIn (FR R) 0 P .any ops Q fuel listed a w:=by
 intro fuel
 induction fuel with
 | zero=>
   intro listed E g a w hsz hcl hc inv;have hall: ∀i,i<ops.size->listed.getD i false=true:=fun i hi=>by
     have his:i<listed.size:=by omega
     simp only [Array.getD,his,dif_pos];cases hb:listed[i] with
     | true=>simp [hb]
     | false=>
       exfalso;have:0<listed.toList.count false:=List.count_pos_iff.2 (by rw [<-hb];simp);omega
   refine ⟨?_,ZLz hp ht hz hl inv hall hD⟩;refine List.eq_nil_iff_forall_not_mem.2 fun j hj=>?_;obtain ⟨h0,o,ho,_⟩:=mem_ready.1 hj;have hjl:=(Array.getElem?_eq_some_iff.1 ho).1;have:=hall j hjl;have hjs:j<listed.size:=by omega
   simp only [Array.getD,hjs,dif_pos] at h0 this;rw [h0] at this;cases this
 | succ fuel ih=>
   intro listed E g a w hsz hcl hc inv;refine ⟨fun hr=>ZLz hp ht hz hl inv (ZK0 hp ht hz hl hsz hr) hD,fun j hj=>?_⟩;obtain ⟨hj0,o,ho,hdep⟩:=mem_ready.1 hj;have hjl:=(Array.getElem?_eq_some_iff.1 ho).1;have hjs:j<listed.size:=by omega
   have hj0':listed.getD j false=false:=by
     simp only [Array.getD,hjs,dif_pos] at hj0⊢;exact hj0
   refine ZJj hp ht hz hl hF hN hck inv hg0 (fun k o hk hL=>hcl k o hk hL) ho hj0' hdep fun v w' E' g' inv' _ _=>?_;have hL:(fun k=>listed.getD k false||k==j)=fun k=>(listed.setIfInBounds j true).getD k false:=by
     funext k
     by_cases hkj:j=k
     · subst hkj;simp [Array.getD,hjs]
     · rw [getD_set_ne false hkj];have:(k==j)=false:=by simp;omega
       rw [this,jF]
   rw [hL] at inv';refine ih _ (by simpa using hsz) (fun k o2 ho2 hk ed he hb=>?_) ?_ inv'
   · refine getD_set_true ?_;by_cases hkj:j=k
     · subst hkj;rw [ho] at ho2;cases ho2;exact hdep ed he hb
     · rw [getD_set_ne false hkj] at hk;exact hcl k o2 ho2 hk ed he hb
   · have hlj:listed.toList[j]? =some false:=by
       simp only [Array.getD,hjs,dif_pos] at hj0;have:listed[j]=false:=hj0;rw [<-this];simp
     rw [kJ];have:=Am.Zt0 hlj;omega
end
theorem ZIt {x:Env×H} (hx:runD ops P F nt e h=some x):Pl ops/\P.follows .mixedOrders=true/\ ∃s st,st 0=(e,h)/\st (sch ops).length=x/\Tr P F nt ops (sch ops) s st/\ ∀y∈s,ZJs ops P F (ZHg ops s x.2) x.1 y=true:=by
 unfold runD at hx;split at hx
 ·rename_i hc;rw [qH] at hc;split at hx
  ·rename_i s e' h' hr;split at hx
   ·rename_i hall;cases hx;obtain ⟨st,t1,t2,t3⟩:=ZMg _ hr;exact ⟨ZKA hc.1,hc.2,s,st,t1,t2,t3,fun y hy=>List.all_eq_true.1 hall y hy⟩
   ·cases hx
  ·cases hx
 ·cases hx
theorem ZJk (hN:ZHz F) {x:Env×H} (hx:runD ops P F nt e h=some x):h.next<=x.2.next:=by
 obtain ⟨_,_,s,st,t1,t2,t3,_⟩:=ZIt hx;have:=t3.mono hN (jW _) (qG _);rw [t1,t2] at this;exact this
theorem ZKz (hF:Zcv P F) (hN:ZHz F) (hh:HR g h w) (he:EnvR g e a) (hs:nt<=a.tmps.size) (hx:runD ops P F nt e h=some (e',h')) {id:Nat} {Q:Exit->Act->World->Prop} (hD:Done nt e' h' g w (Q .normal)):
  (Code.region id ops true).wpIn (FR R) 0 P Q a w:=by
 obtain ⟨hp,hfol,s,st,hz,hl,ht,hck⟩:=ZIt hx;refine wpIn_region_any hfol ?_;have hh':HR g h {w with drawn:=w.drawn+1}:=hh.sameHeap rfl;have hD':Done nt e' h' g {w with drawn:=w.drawn+1} (Q .normal):=hD.next (Le.refl g) ⟨rfl,rfl,rfl,qG _,fun _ _ _=>rfl,fun b hb=> .inl ⟨b,hb,rfl⟩,fun _ _=>rfl⟩;have hgetD: ∀i,(Array.replicate ops.size false).getD i false=false:=fun i=>by
  simp only [Array.getD];split
  ·simp
  ·rfl
 obtain ⟨q,q1,q2,q3,q4,_⟩:=ht.heap (h':=h') (by rw [hl]) (sch ops).length 0 Zo;refine ZMY hp ht hz hl hF hN hck hh' hD' ops.size (Array.replicate ops.size false) (E:=e) (g:=g.up (st q).2.next) Zs (fun k o _ hk=>by rw [hgetD] at hk;cases hk) (by simp [yT]) ?_;have hcnt:cE ops (fun i=>(Array.replicate ops.size false).getD i false)=0:=by
  unfold cE;rw [xI,List.filter_eq_nil_iff];intro k _;rw [hgetD];simp
 have h0:HR g (st 0).2 {w with drawn:=w.drawn+1}:=by rw [hz];exact hh'
 have hgh:=ZKX ht h0 (jW q) q2 fun r i _ h2 h3=>q4 r i (jW _) h2 h3;have hle: ∀b,b<=(sch ops).length->h.next<=(st b).2.next:=fun b hb=>by
  have:=ht.mono hN (jW _) hb;rw [hz] at this;exact this
 refine ⟨⟨_,by rw [hcnt];rw [List.drop_zero] at q3;exact q3,hgh⟩,he.mono (ZH5 _ _),fun t j _ hL=>?_,fun t _=>rfl,hs,⟨ZH5 _ _,?_,fun b hb=> .inl hb,rfl⟩,(Grew.refl _ _).up _,fun p i o hpos _ _ _ _ hex=>?_⟩
 ·rw [hgetD] at hL;cases hL
 ·show g.top<=(st q).2.next;rw [hh.top];exact hle q q2
 ·have h1:=hh.nx _ hex;have:=hle p (by have:=Am.Zaq hpos;omega);omega
end Go.Cm
end
section
namespace Go.Cm
attribute [local instance] wi0
variable {P:Program} {R:Option Nat} {F:ZaQ} {ops:Array Oper} {nt:Nat} {e e':Env} {h h':H} {g g0:G} {a:Act} {w w' w0:World}
theorem HR.frame (hh:HR g h w) (hs:w.heap.size<=w'.heap.size) (hd: ∀b,g.pr0 b≠0->w'.heap[b]? =w.heap[b]?) (hk: ∀b,g.ex b->w'.heap[(g.β b).1]? =w.heap[(g.β b).1]?):HR g h w':=
 ⟨kT hh.bs hs,hh.nx,hh.top,hh.mins,hh.grp,fun b hb=>⟨(hh.blk b hb).1,xH (hh.blk b hb).2 hs⟩,fun b o hx hb=>(hh.ob b o hx hb).mono (Le.refl g).toLe0 hx (hk b hx),hh.tl,
  fun b t n hx hb=>by rw [hk b hx];exact hh.ty b t n hx hb,hh.i1,hh.i2,hh.i4,hh.dm,⟨fun b o v ho hv=>ZH9 (hd b Zo) (hh.dt.kp b o v ho hv),hh.dt.dj,fun b hb=>hh.dt.fr b (kT hs hb)⟩⟩
theorem HR.adopt (hh:HR g h w) {id:Nat} (hn: ¬g.ex id) (hid:id<h.next) {o:O} (ho:h.obs.get id=some o) (hc:ZJN o=false) {blk s:Nat} (hb0:g.base<=blk) (hb3:g.pr0 blk=0) (hb1:blk<w.heap.size) (hb2: ∀b,g.ex b->(g.β b).1≠blk)
  (hob:ObOK (g.grow id blk s) h.low w id o) (hty:h.tys.get id=none):HR (g.grow id blk s) h w:=by
 have hβ: ∀b,g.ex b->(g.grow id blk s).β b=g.β b:=(ZHo g hn _ s).β;have hn1:((g.grow id blk s).β id).1=blk:=by rw [ZHl]
 have hnc: ∀{cs gr ver kid},h.obs.get id≠some (.cells cs gr ver kid):=fun {cs gr ver kid} hh=>by rw [ho] at hh;cases hh;cases hc
 have ha: ∀{k gr ver kid cs},ZHO (g.grow id blk s) h k gr ver kid cs->ZHO g h k gr ver kid cs:=fun {k gr ver kid cs} ⟨h1,h2,h3⟩=>by
  rcases h3 with h3|h3
  ·exact ⟨h1,h2,h3⟩
  ·exact absurd (by rw [<-h3];exact h1) hnc
 refine ⟨hh.bs,fun b hb=>?_,by have:=hh.top;simp only [G.grow];omega,fun k m hk=> .inl (hh.mins k m hk),fun b cs gr ver kid hx hb=>?_,fun b hb=>?_,fun b o' hx hb=>?_,hh.tl,fun b t n hx hb=>?_,fun b b' gr ver kid cs gr' ver' kid' cs' h1 h2 hnb hbb=>?_,fun b b' gr ver cs ver' kid' cs' h1 h2=>?_,fun b b' gr ver cs ver' cs' x1 x2 h1 h2=>?_,fun b o' b' x1 hb hc x2 hnb=>?_,⟨hh.dt.kp,fun b hb=>?_,hh.dt.fr⟩⟩
 ·rcases hb with hb|rfl
  ·exact hh.nx b hb
  ·exact hid
 ·rcases hx with hx|hx
  ·exact .inl (hh.grp b cs gr ver kid hx hb)
  ·rw [hx] at hb;exact absurd hb hnc
 ·rcases hb with hb|hb
  ·rw [hβ b hb];exact hh.blk b hb
  ·rw [hb,hn1];exact ⟨hb0,hb1⟩
 ·rcases hx with hx|hx
  ·exact (hh.ob b o' hx hb).mono (ZHo g hn _ s) hx rfl
  ·rw [hx,ho] at hb;cases hb;rw [hx];exact hob
 ·rcases hx with hx|hx
  ·rw [hβ b hx];exact hh.ty b t n hx hb
  ·rw [hx,hty] at hb;cases hb
 ·have a1:=ha h1;have a2:=ha h2;rw [hβ b a1.2.2,hβ b' a2.2.2] at hbb;exact hh.i1 b b' gr ver kid cs gr' ver' kid' cs' a1 a2 hnb hbb
 ·have a1:=ha h1;have a2:=ha h2;rw [hβ b a1.2.2,hβ b' a2.2.2];exact hh.i2 b b' gr ver cs ver' kid' cs' a1 a2
 ·rcases x1 with x1|x1
  ·rcases x2 with x2|x2
   ·exact hh.i4 b b' gr ver cs ver' cs' x1 x2 h1 h2
   ·rw [x2] at h2;exact absurd h2 hnc
  ·rw [x1] at h1;exact absurd h1 hnc
 ·rcases x1 with x1|x1
  ·rw [hβ b x1];rcases x2 with x2|x2
   ·rw [hβ b' x2];exact hh.dm b o' b' x1 hb hc x2 hnb
   ·rw [x2,hn1];exact hb2 b x1
  ·rcases x2 with x2|x2
   ·rw [x1,hn1,hβ b' x2];exact (hb2 b' x2).symm
   ·exact absurd (x2.trans x1.symm) hnb
 ·rcases hb with hb|hb
  ·rw [hβ b hb];exact hh.dt.dj b hb
  ·rw [hb,hn1];exact hb3
theorem Grew.outside (hg:Grew g0 w0 g w) (h1:w'.os=w.os) (h2:w'.tape=w.tape) (h3:w'.output=w.output) (hs:w.heap.size<=w'.heap.size) (hk: ∀k,k<w0.heap.size->w'.heap[k]? =w.heap[k]?):Grew g0 w0 g w':=
 ⟨h1.trans hg.os,h2.trans hg.tape,h3.trans hg.output,kT hg.size hs,fun k hk1 hk2=>(hk k hk1).trans (hg.old k hk1 hk2),hg.img,hg.pr⟩
section
variable {k0 m t:Nat}
theorem ZHj (i:Nat):(ZG8 k0 m t ops)[i]? =(ops[i]?).map fun o=>if ZJl k0 m t i o then dull o else o:=by simp [ZG8,Array.getElem?_mapIdx]
theorem ZKv:(ZG8 k0 m t ops).size=ops.size:=by simp [ZG8]
structure LitPl (ops:Array Oper) (k0 m t:Nat):Prop where
 lt:k0<ops.size
 lit: ∀o,ops[k0]? =some o->ZM2 o=some (m,t)
 dst: ∀i o,ops[i]? =some o->i≠k0->o.dst≠some m
 ins: ∀i o,ops[i]? =some o->i≠k0->ZKa m t o=true->ZNp k0 (ZG8 k0 m t ops) i o=true
 oth: ∀i o,ops[i]? =some o->i≠k0->ZKa m t o=false->m∉ZHX ops o
theorem ZK4 (hc:ZN3 k0 m t ops=true):LitPl ops k0 m t:=by
 unfold ZN3 at hc;simp only [qH,jA] at hc;obtain ⟨h1,h2⟩:=hc;have key: ∀i o,ops[i]? =some o->(if Nat.beq i k0 then ZM2 o==some (m,t) else o.dst !=some m && (if ZKa m t o then ZNp k0 (ZG8 k0 m t ops) i o else !(ZHX ops o).elem m))=true:=fun i o ho=>by
  have:=List.all_eq_true.1 h1 i (List.mem_range.2 (Array.getElem?_eq_some_iff.1 ho).1);unfold ZL5 at this;rw [ho] at this;exact this
 have hne: ∀i,i≠k0->Nat.beq i k0=false:=fun i hi=>by
  rw [jJ];exact fun hb=>hi (qE hb)
 refine ⟨h2,fun o ho=>?_,fun i o ho hi=>?_,fun i o ho hi hs=>?_,fun i o ho hi hs=>?_⟩
 ·have:=key k0 o ho;rw [if_pos (kY k0)] at this;exact beq_iff_eq.1 this
 ·have:=key i o ho;rw [hne i hi] at this;simp only [qW,if_false,qH,bne_iff_ne] at this;exact this.1
 ·have:=key i o ho;rw [hne i hi,hs] at this;simp only [qW,if_false,if_true,qH] at this;exact this.2
 ·have:=key i o ho;rw [hne i hi,hs] at this;simp only [qW,if_false,qH,j0] at this;intro hm;rw [List.elem_eq_true_of_mem hm] at this;exact absurd this.2 Zs
theorem ZIM {o:Oper} (hi:ZKa m t o=true): ∃k x,o.op= .insert t (.tmp m) k x/\o.guard=none/\o.dst=none:=by
 unfold ZKa at hi;split at hi
 ·rename_i t' m' k x ho;simp only [qH,yX] at hi;obtain ⟨⟨⟨h1,h2⟩,h3⟩,h4⟩:=hi;rw [qE h1,qE h2] at ho;exact ⟨k,x,ho,h3,h4⟩
 ·cases hi
theorem ZJp {o:Oper} (hi:ZM2 o=some (m,t)): ∃r,o.op= .makeMap t r/\o.dst=some m/\o.guard=none/\(r=none∨ ∃k n,r=some (.const (.int k n))):=by
 unfold ZM2 at hi;split at hi
 ·rename_i t' m' h1 h2 h3;cases hi;exact ⟨none,h1,h2,h3,.inl rfl⟩
 ·rename_i t' k n m' h1 h2 h3;cases hi;exact ⟨_,h1,h2,h3,.inr ⟨k,n,rfl⟩⟩
 ·cases hi
theorem ZIh {e:Env}: ∀{l:List Nat} {ips:List (Nat×V×V)},l.Nodup->ZIb m t ops e l=some ips->
   (∀p∈ips,p.1∈l/\ ∃o,ops[p.1]? =some o/\ZKa m t o=true/\prOf e o=some p.2)/\(ips.map (·.1)).Nodup/\ ∀i∈l,∀o,ops[i]? =some o->ZKa m t o=true-> ∃p,(i,p)∈ips
 | [],ips,_,hp=>by
   simp only [ZIb,qB] at hp;subst hp;exact ⟨fun p hp=>(by cases hp),List.nodup_nil,fun i hi=>(by cases hi)⟩
 | i::r,ips,hn,hp=>by
   rw [yK] at hn;simp only [ZIb] at hp;split at hp
   · rename_i o ho;split at hp
     · rename_i his;split at hp
       · rename_i p ps h1 h2;cases hp;obtain ⟨q1,q2,q3⟩:=ZIh hn.2 h2;refine ⟨fun p' hp'=>?_,?_,fun j hj o' ho' hs=>?_⟩
         · rcases List.mem_cons.1 hp' with rfl|hp'
           · exact ⟨by simp,o,ho,his,h1⟩
           · obtain ⟨z1,z2⟩:=q1 p' hp';exact ⟨yV _ z1,z2⟩
         · rw [xG,yK];refine ⟨fun hm=>?_,q2⟩;obtain ⟨p',hp',he⟩:=List.mem_map.1 hm;have:=(q1 p' hp').1;rw [he] at this;exact hn.1 this
         · rcases List.mem_cons.1 hj with rfl|hj
           · exact ⟨p,by simp⟩
           · obtain ⟨p',hp'⟩:=q3 j hj o' ho' hs;exact ⟨p',yV _ hp'⟩
       · cases hp
     · rename_i his;obtain ⟨q1,q2,q3⟩:=ZIh hn.2 hp;refine ⟨fun p' hp'=>?_,q2,fun j hj o' ho' hs=>?_⟩
       · obtain ⟨z1,z2⟩:=q1 p' hp';exact ⟨yV _ z1,z2⟩
       · rcases List.mem_cons.1 hj with rfl|hj
         · rw [ho] at ho';cases ho';exact absurd hs his
         · exact q3 j hj o' ho' hs
   · cases hp
theorem ZkZ {kt:Nat}: ∀{ips:List (Nat×V×V)},Zxc P kt ips=true->(∀p∈ips,ckT P DEEP kt p.2.1=true)/\ ∀p∈ips,∀q∈ips,p.1≠q.1->eqT P DEEP kt p.2.1 q.2.1=some false
 | [],_=>⟨fun p hp=>(by cases hp),fun p hp=>(by cases hp)⟩
 | x::r,hp=>by
   simp only [Zxc,qH] at hp;obtain ⟨⟨h1,h2⟩,h3⟩:=hp;obtain ⟨q1,q2⟩:=ZkZ h3;have hne: ∀{a b},neqT P kt a b=true->eqT P DEEP kt a b=some false:=fun {a b} hb=>by
     unfold neqT at hb;split at hb
     · assumption
     · cases hb
   refine ⟨fun p hp=>?_,fun p hp q hq hn=>?_⟩
   · rcases List.mem_cons.1 hp with e1|hp'
     · rw [e1];exact h1
     · exact q1 p hp'
   · rcases List.mem_cons.1 hp with e1|hp'
     · rcases List.mem_cons.1 hq with e2|hq'
       · rw [e1,e2] at hn;exact absurd rfl hn
       · have:=List.all_eq_true.1 h2 q hq';rw [qH] at this;rw [e1];exact hne this.1
     · rcases List.mem_cons.1 hq with e2|hq'
       · have:=List.all_eq_true.1 h2 p hp';rw [qH] at this;rw [e2];exact hne this.2
       · exact q2 p hp' q hq' hn
theorem ZJK {α:Type} {L:Nat->Bool} {j:Nat} {p:α} (hL:L j=false): ∀{l:List (Nat×α)},(l.map (·.1)).Nodup->(j,p)∈l->(l.filter fun q=>L q.1||q.1==j).Perm ((j,p)::l.filter fun q=>L q.1)
 | [],_,hm=>by cases hm
 | q::r,hn,hm=>by
   rw [xG,yK] at hn;by_cases hq:q.1=j
   · have hnr: ∀x∈r,x.1≠j:=fun x hx he=>hn.1 (List.mem_map.2 ⟨x,hx,he.trans hq.symm⟩);have hqe:q=(j,p):=by
       rcases List.mem_cons.1 hm with h1|h1
       · exact h1.symm
       · exact absurd rfl (hnr _ h1)
     have hf:(r.filter fun q=>L q.1||q.1==j)=r.filter fun q=>L q.1:=List.filter_congr fun x hx=>by
       have:(x.1==j)=false:=by simpa using hnr x hx
       rw [this,jF]
     rw [jZ,if_pos (by simp [hq]),hf,jZ,if_neg (by rw [hq,hL];simp),hqe]
   · have hm':(j,p)∈r:=by
       rcases List.mem_cons.1 hm with h1|h1
       · exact absurd (by rw [<-h1]) hq
       · exact h1
     have ih:=ZJK (p:=p) hL hn.2 hm';have hqf:(q.1==j)=false:=by simpa using hq
     rw [jZ,jZ];simp only [hqf,jF];by_cases hLq:L q.1=true
     · rw [if_pos hLq,if_pos hLq];exact (ih.cons q).trans (List.Perm.swap _ _ _)
     · rw [if_neg hLq,if_neg hLq];exact ih
end
theorem ZJr {t:TypeId} {k:V}: ∀{es:List En},(∀en∈es,eqT P DEEP t k en.k=some false)-> ∀i,ZLE P t k es i=some none
 | [],_,_=>rfl
 | e::es,h,i=>by
   simp only [ZLE,h e Zs];exact ZJr (fun en hen=>h en (yV _ hen)) (i+1)
def Xs (ips:List (Nat×V×V)) (k0 m:Nat) (w0:World) (L:Nat->Bool) (g:G) (a:Act) (w:World):Prop:=
 L k0=true-> ∃blk ms c es,a.tmps.getD m undef= .map (some blk)/\w0.heap.size<=blk/\(blk<w.heap.size/\g.pr0 blk=0)/\(∀b,g.ex b->(g.β b).1≠blk)/\w.heap[blk]? =some (.map ms c)/\
  (es.map fun (e:En)=>(e.k,e.x)).Perm ((ips.filter fun p=>L p.1).map (·.2))/\RelEs g es ms
theorem ZKw {k0 m t:Nat} (hq:LitPl ops k0 m t) {j:Nat} {o:Oper} (ho:ops[j]? =some o) (hlit:ZJl k0 m t j o=false) {K:Act->World->Prop} {Q:Exit->Act->World->Prop} (hw:wpOpIn (FR R) 0 P (ZG8 k0 m t ops) Q j K a w):wpOpIn (FR R) 0 P ops Q j K a w:=by
 have ho':(ZG8 k0 m t ops)[j]? =some o:=by rw [ZHj,ho];simp [hlit]
 have hj:j≠k0/\ZKa m t o=false:=by
   unfold ZJl at hlit;rw [jO] at hlit;exact ⟨fun he=>by rw [he,kY] at hlit;exact absurd hlit.1 Zs,hlit.2⟩
 unfold wpOpIn at hw⊢;rw [ho'] at hw;rw [ho];simp only at hw⊢;have hwa:Region.wanted o (yielded (ZG8 k0 m t ops) a.tmps)=Region.wanted o (yielded ops a.tmps):=by
   unfold Region.wanted;split
   · rfl
   · rename_i x want hg;congr 1;unfold yielded;rw [ZHj];cases hox:ops[x]? with
     | none=>rfl
     | some ox=>
       simp only [jV,jX];by_cases hx:ZJl k0 m t x ox=true
       · rw [if_pos hx];have hd:ox.dst=none:=by
           unfold ZJl at hx;rw [qL] at hx;rcases hx with hx|hx
           · have hx:=qE hx;subst hx;obtain ⟨_,_,hd,_⟩:=ZJp (hq.lit ox hox);refine absurd ?_ (hq.oth j o ho hj.1 hj.2);unfold ZHX gtmp;rw [hg];simp [hox,hd]
           · obtain ⟨_,_,_,_,hd⟩:=ZIM hx;exact hd
         rw [hd];rfl
       · rw [if_neg hx]
 rwa [hwa] at hw
section
variable {k0 m t kt el:Nat} {ips:List (Nat×V×V)}
variable {s:List Snap} {st:Nat->Env×H} (hp:Pl (ZG8 k0 m t ops)) (ht:Tr P F nt (ZG8 k0 m t ops) (sch (ZG8 k0 m t ops)) s st) (hz:st 0=(e,h)) (hl:st (sch (ZG8 k0 m t ops)).length=(e',h'))
 (hF:Zcv P F) (hN:ZHz F) (hck: ∀x∈s,ZJs (ZG8 k0 m t ops) P F (ZHg (ZG8 k0 m t ops) s h') e' x=true)
 (hq:LitPl ops k0 m t) (hem:e.get m=none) (hmt:m<nt) (hkt:P.underlying t=some (.map kt el)) (hips:ZIb m t ops e' (List.range ops.size)=some ips) (hap:Zxc P kt ips=true)
variable {L:Nat->Bool} {E:Env}
theorem no_m (hq:LitPl ops k0 m t) (j:Nat):ZHi (ZG8 k0 m t ops) j≠some m:=by
 unfold ZHi;rw [ZHj];cases ho:ops[j]? with
 | none=>simp
 | some o=>
   simp only [jV,jX];by_cases hx:ZJl k0 m t j o=true
   · rw [if_pos hx];simp [dull]
   · rw [if_neg hx];refine hq.dst j o ho fun he=>hx ?_;unfold ZJl;rw [he,kY,Bool.true_or]
theorem Xs.keep (hX:Xs ips k0 m w0 L g a w) {i:Nat} (hi:i≠k0) (hni: ∀p∈ips,p.1≠i) {g':G} {w':World} (hl:Le0 g g') (hg:Grew g w g' w') {d:Option Tmp} (hd:d≠some m) (v:Value):Xs ips k0 m w0 (fun k=>L k||k==i) g' (a.put d v) w':=by
 intro hk;have hk0:(k0==i)=false:=by simpa using fun he:k0=i=>hi he.symm
 simp only [hk0,jF] at hk;obtain ⟨blk,ms,c,es,x1,x2,⟨x3,x8⟩,x4,x5,x6,x7⟩:=hX hk;refine ⟨blk,ms,c,es,?_,x2,⟨xH x3 hg.size,(hg.pr blk x3).trans x8⟩,fun b hb he=>?_,(hg.old blk x3 x4).trans x5,?_,x7.mono hl⟩
 ·cases d with
  | none=>exact x1
  | some d=>rw [Am.Zbb (fun he=>hd (by rw [he]))];exact x1
 ·rcases hg.img b hb with ⟨b0,hb0,h1⟩|h1
  ·exact x4 b0 hb0 (h1.trans he)
  ·omega
 ·have:(ips.filter fun p=>L p.1||p.1==i)=ips.filter fun p=>L p.1:=List.filter_congr fun p hp=>by
   have:(p.1==i)=false:=by simpa using hni p hp
   rw [this,jF]
  rw [this];exact x6
theorem Inv.at_m {ops':Array Oper} {L:Nat->Bool} {E:Env} {s:List Snap} {st:Nat->Env×H} (inv:Inv P F nt ops' s st e e' h' g0 w0 L E g a w) (hE:E.get m=none) (v:Value):Inv P F nt ops' s st e e' h' g0 w0 L E g (a.put (some m) v) w:=by
 refine ⟨inv.hr,⟨by rw [Am.Zb6];exact inv.env.1,fun u x hu=>?_⟩,inv.ep1,inv.ep2,by rw [Am.Zd6];exact inv.sz,inv.le,inv.gr,inv.un⟩;have hum:u≠m:=fun he=>by rw [he,hE] at hu;cases hu
 rw [Am.Zbb hum];exact inv.env.2 u x hu
include hp ht hz hl hF hN hck hq hem hmt hkt hips hap
theorem ZMw (inv:Inv P F nt (ZG8 k0 m t ops) s st e e' h' g0 w0 L E g a w) (hX:Xs ips k0 m w0 L g a w) (hg0:HR g0 h w0) (hcl:Cl (ZG8 k0 m t ops) L) {i:Nat} {o:Oper} (ho:ops[i]? =some o) (hLi:L i=false) (hrd: ∀ed∈o.after,Region.binds .any ed=true->L ed.on=true)
  {K:Act->World->Prop} {Q:Exit->Act->World->Prop} (hK: ∀a' w' E' g',Inv P F nt (ZG8 k0 m t ops) s st e e' h' g0 w0 (fun k=>L k||k==i) E' g' a' w'->Xs ips k0 m w0 (fun k=>L k||k==i) g' a' w'->K a' w'):wpOpIn (FR R) 0 P ops Q i K a w:=by
 have hil:=(Array.getElem?_eq_some_iff.1 ho).1;obtain ⟨ps1,ps2,ps3⟩:=ZIh List.nodup_range hips;have hEm:E.get m=none:=(inv.ep2 m fun j hj=>absurd hj (no_m hq j)).trans hem;obtain ⟨hc,hhc,hhr⟩:=inv.hr;have blind:ZJl k0 m t i o=true-> ∀w':World,HR g hc w'->Grew g0 w0 g w'->Inv P F nt (ZG8 k0 m t ops) s st e e' h' g0 w0 (fun k=>L k||k==i) E g a w':=fun hlit w' h1 h2=>by
  have ho':(ZG8 k0 m t ops)[i]? =some (dull o):=by rw [ZHj,ho];simp [hlit]
  obtain ⟨p,hpos⟩:=hp.pos (Array.getElem?_eq_some_iff.1 ho').1;have hE:isE (ZG8 k0 m t ops) i=false:=by unfold isE;rw [ho'];rfl
  exact ZIz hp ht hz hl inv hpos ho' (E1:=E) (ov:=none) rfl (fun _ h=>by cases h) (g':=g) (w':=w') (v:=undef) ⟨hc,by rw [ZIK hp ht hz hl hE];exact hhc,h1⟩ inv.env inv.le h2 fun q k ok hq hok hc hL _ hg=>inv.un q k ok hq hok hc hL hg
 by_cases hi0:i=k0
 ·subst hi0;obtain ⟨r,hop,hdst,hgu,hr⟩:=ZJp (hq.lit o ho);have hmk:mkV P E o.op=some (fun _=> .map [] 0,fun i=> .map i,none):=by
   rw [hop];rcases hr with rfl|⟨k,n,rfl⟩<;>simp [mkV,hkt,optV,ev,ofConst]
  obtain ⟨rv,ob,sz,m1,m2,m3,_⟩:=ZMT hhr inv.env hmk;have e1:rv= .map (some w.heap.size):=by
   have:=m3 hc.next;simp only [Rel,ZHl] at this;exact this.2
  obtain ⟨ms,z1,z2,_⟩:=m2 hc.next (fun _=>0) hhr.fresh;rw [ZHl] at z1;have z2':RelEs g [] ms:=⟨z2.1,fun i e he=>by simp at he⟩
  unfold wpOpIn;rw [ho];simp only [Region.wanted,hgu,if_true];refine ZJA m1 (.inl ⟨_,rfl⟩) ?_;show K (a.put o.dst rv) (w.alloc ob);rw [hdst,e1];have hfr:HR g hc (w.alloc ob):=hhr.frame (by show _<=(w.heap.push ob).size;simp) (fun b hb=>by
   show (w.heap.push ob)[_]? =_;rw [qP,if_neg (fun he=>hb (by rw [he];exact hhr.dt.fr _ (qG _)))]) fun b hb=>by
   show (w.heap.push ob)[_]? =_;rw [qP,if_neg (jB (hhr.blk b hb).2)]
  have hgr:Grew g0 w0 g (w.alloc ob):=inv.gr.outside rfl rfl rfl (by show _<=(w.heap.push ob).size;simp) fun k hk=>by
   show (w.heap.push ob)[_]? =_;have:=inv.gr.size;rw [qP,if_neg Zo]
  refine hK _ _ E g ((blind (by simp [ZJl]) _ hfr hgr).at_m hEm _) fun _=>⟨w.heap.size,ms,0,[],?_,inv.gr.size,?_,fun b hb=>jB (hhr.blk b hb).2,z1,?_,z2'⟩
  ·exact Am.Zbe (xH hmt inv.sz)
  ·exact ⟨by show _<(w.heap.push ob).size;simp,hhr.dt.fr _ (qG _)⟩
  ·have:(ips.filter fun p=>L p.1||p.1==i)=[]:=List.filter_eq_nil_iff.2 fun p hp'=>by
    obtain ⟨q1,o2,q2,q3,_⟩:=ps1 p hp';have hpi:p.1≠i:=fun he=>by
     rw [he,ho] at q2;cases q2;obtain ⟨_,_,hop2,_⟩:=ZIM q3;rw [hop] at hop2;cases hop2
    have hpi':(p.1==i)=false:=by simpa using hpi
    rw [hpi',jF];intro hLp;have hin:=hq.ins p.1 o2 q2 hpi q3;unfold ZNp at hin;split at hin
    ·rw [qH] at hin;have ho2:(ZG8 i m t ops)[p.1]? =some (dull o2):=by rw [ZHj,q2];simp [ZJl,q3]
     have:=ZG9 hp hcl p.1 _ ho2 (fun ed h1 h2=>hcl p.1 _ ho2 hLp ed h1 h2) i hin.1;rw [hLi] at this;cases this
    ·cases hin
   rw [this];exact List.Perm.nil
 ·by_cases hins:ZKa m t o=true
  ·obtain ⟨k,x,hop,hgu,hdst⟩:=ZIM hins;have hin:=hq.ins i o ho hi0 hins;unfold ZNp at hin;rw [show ZNP o.op=some (k,x) by rw [hop];rfl] at hin;simp only [qH] at hin;obtain ⟨c1,c2⟩:=hin;have hlit:ZJl k0 m t i o=true:=by unfold ZJl;rw [hins,Bool.or_true]
   have ho':(ZG8 k0 m t ops)[i]? =some (dull o):=by rw [ZHj,ho];simp [hlit]
   have hLk:L k0=true:=ZG9 hp hcl i _ ho' hrd k0 c1;obtain ⟨blk,ms,c,es,x1,x2,⟨x3,x8⟩,x4,x5,x6,x7⟩:=hX hLk;obtain ⟨p,hpm⟩:=ps3 i (List.mem_range.2 hil) o ho hins;obtain ⟨_,o2,q2,q3,q4⟩:=ps1 _ hpm;rw [ho] at q2;cases q2;have hget: ∀u∈ZIr [k,x],E.get u=e'.get u:=fun u hu=>by
    by_cases hw: ∃j,ZHi (ZG8 k0 m t ops) j=some u
    ·obtain ⟨j,hj⟩:=hw;have:=List.all_eq_true.1 (List.all_eq_true.1 c2 u hu) j (List.mem_range.2 (ZIi hj));simp only [hj,bne_self_eq_false,kE] at this;exact inv.ep1 u j hj (ZG9 hp hcl i _ ho' hrd j this)
    ·have hn: ∀j,ZHi (ZG8 k0 m t ops) j≠some u:=fun j hj=>hw ⟨j,hj⟩;rw [inv.ep2 u fun j hj=>absurd hj (hn j)];have:=ZLn hp ht hz hl (p:=(sch (ZG8 k0 m t ops)).length) hn (qG _);rw [hl] at this;exact this.symm
   have hevk:ev E k=ev e' k:=by
    cases k with
    | tmp u=>exact hget u (by simp [ZIr])
    | _=>rfl
   have hevx:ev E x=ev e' x:=by
    cases x with
    | tmp u=>exact hget u (by cases k<;>simp [ZIr])
    | _=>rfl
   unfold prOf at q4;rw [show ZNP o.op=some (k,x) by rw [hop];rfl] at q4;simp only at q4;split at q4
   ·rename_i va vb hva hvb;cases q4;have hk:=ZG6 inv.env (hevk.trans hva);have hx:=ZG6 inv.env (hevx.trans hvb);obtain ⟨ap1,ap2⟩:=ZkZ hap;have hne: ∀en∈es,eqT P DEEP kt va en.k=some false:=fun en hen=>by
     have h1:(en.k,en.x)∈es.map fun (e:En)=>(e.k,e.x):=List.mem_map.2 ⟨en,hen,rfl⟩;obtain ⟨q,hq1,hq2⟩:=List.mem_map.1 (x6.mem_iff.1 h1);obtain ⟨hq3,hq4⟩:=List.mem_filter.1 hq1;have:=ap2 _ hpm q hq3 fun he=>by
      have he:i=q.1:=he;rw [<-he] at hq4;simp only [hLi] at hq4;cases hq4
     rw [hq2] at this;exact this
    have hs:ZLI P kt va es=some none:=by
     unfold ZLI;rw [if_pos (ap1 _ hpm)];exact ZJr hne 0
    obtain ⟨hck,r',hf,hn⟩:=ZIQ (P:=P) (w:=w) hk x7 hs;simp only at hn;subst hn;have hrun:(Instr.mapUpdate t (.map (some blk)) (a.eval k) (a.eval x)).run P w= .ok () {w with heap:=w.heap.setIfInBounds blk (.map (ms.push {key:=a.eval k,val:=a.eval x,born:=c}) (c+1))}:=by
     unfold Instr.mapUpdate;simp only [qD,run_underlying hkt,qA,Go.MapKept.run_getObj_map x5,hck,hf,qI,Go.MapKept.run_setObj_map _ x5]
    have hm:a.eval (.tmp m)= .map (some blk):=x1;unfold wpOpIn;rw [ho];simp only [Region.wanted,hgu,if_true];have hex:(execOp a.eval o).run P w= .ok .skip {w with heap:=w.heap.setIfInBounds blk (.map (ms.push {key:=a.eval k,val:=a.eval x,born:=c}) (c+1))}:=by
     simp only [execOp,hop,hm];rw [qD,hrun,qA];rfl
    refine ZMS hex ?_;generalize hw':({w with heap:=w.heap.setIfInBounds blk (.map (ms.push {key:=a.eval k,val:=a.eval x,born:=c}) (c+1))}:World)=w';have hwh:w'.heap=w.heap.setIfInBounds blk (.map (ms.push {key:=a.eval k,val:=a.eval x,born:=c}) (c+1)):=by rw [<-hw']
    show K (a.put o.dst undef) w';rw [hdst];have hfr:HR g hc w':=hhr.frame (by rw [hwh];simp) (fun b hb=>by rw [hwh,qQ,if_neg (fun he=>hb (by rw [<-he];exact x8))]) fun b hb=>by
     rw [hwh,qQ,if_neg (fun he=>x4 b hb he.symm)]
    have hgr:Grew g0 w0 g w':=inv.gr.outside (by rw [<-hw']) (by rw [<-hw']) (by rw [<-hw']) (by rw [hwh];simp) fun k hk=>by
     rw [hwh,qQ,if_neg Zo]
    refine hK a w' E g (blind hlit _ hfr hgr) fun _=>⟨blk,_,c+1,es++[⟨va,vb,c⟩],x1,x2,⟨by rw [hwh];simpa using x3,x8⟩,x4,by rw [hwh,qQ,if_pos rfl,if_pos x3],?_,?_⟩
    ·rw [List.map_append,xG,qT];refine (List.perm_append_singleton _ _).trans ?_;have:=(ZJK (L:=L) hLi ps2 hpm).map fun q=>q.2;exact ((x6.cons _).trans this.symm)
    ·refine ⟨by simp [x7.1],fun j en hen=>?_⟩;rw [qP];rw [List.getElem?_append] at hen;split at hen
     ·rename_i hj;rw [if_neg (by have:=x7.1;omega)];exact x7.2 j en hen
     ·rename_i hj;have hj0:j-es.length=0:=by
       have:=Am.Zaq hen;simpa using this
      rw [hj0] at hen;simp at hen;subst hen;have:=x7.1;rw [if_pos Zo];exact ⟨_,rfl,hk,hx,rfl⟩
   ·cases q4
  ·have hins:ZKa m t o=false:=by simpa using hins
   have hlit:ZJl k0 m t i o=false:=by
    unfold ZJl;rw [hins,jF,jJ];exact fun hb=>hi0 (qE hb)
   have ho':(ZG8 k0 m t ops)[i]? =some o:=by rw [ZHj,ho];simp [hlit]
   refine ZKw hq ho hlit (ZJj hp ht hz hl hF hN hck inv hg0 hcl ho' hLi hrd fun v w' E' g' inv' r1 r2=>hK _ w' E' g' inv' ?_);refine hX.keep hi0 (fun p hp' he=>?_) r1 r2 (hq.dst i o ho hi0) v;obtain ⟨_,o2,q2,q3,_⟩:=ps1 p hp';rw [he,ho] at q2;cases q2;rw [hins] at q3;cases q3
omit hF hN hck hmt hkt hap hem in
theorem ZKY (inv:Inv P F nt (ZG8 k0 m t ops) s st e e' h' g0 w0 L E g a w) (hX:Xs ips k0 m w0 L g a w) (hg0:HR g0 h w0) (hall: ∀i,i<ops.size->L i=true) {Q:Act->World->Prop} (hD:Done nt (e'.set m (.map h'.next)) (h'.new (.mapU (ips.map (·.2)))) g0 w0 Q):Q a w:=by
 obtain ⟨h1,h2⟩:=ZL3 hp ht hz hl inv fun i hi=>hall i (by rw [ZKv] at hi;exact hi);obtain ⟨ps1,_,_⟩:=ZIh List.nodup_range hips;obtain ⟨blk,ms,c,es,x1,x2,⟨x3,x8⟩,x4,x5,x6,x7⟩:=hX (hall k0 hq.lt);have hfl:(ips.filter fun p=>L p.1)=ips:=List.filter_eq_self.2 fun p hp=>hall p.1 (by have:=(ps1 p hp).1;simpa using this);rw [hfl] at x6;have hun: ¬(g.up (h'.next+1)).ex h'.next:=h2.fresh;have hle:Le0 g ((g.up (h'.next+1)).grow h'.next blk 0):=(ZH5 g _).trans (ZHo _ hun _ _);have hr:=(h2.ghost (.mapU (ips.map (·.2))) none).adopt (o:= .mapU (ips.map (·.2))) hun (y7 _) (by rw [ZKm,if_pos rfl]) rfl (blk:=blk) (s:=0) (by
  show g.base<=blk;rw [inv.le.base];exact kT hg0.bs x2) x8 x3 x4 ⟨ms,c,es,by rw [ZHl];exact x5,x6,x7.mono hle,by rw [ZHl]⟩ (ZIV h2 _ none)
 refine hD a w ((g.up (h'.next+1)).grow h'.next blk 0) ⟨h1.1,fun u v hv=>?_⟩ inv.sz hr ⟨inv.le.toLe0.trans hle,?_,fun b hb=>?_,inv.le.dfs⟩ ⟨inv.gr.os,inv.gr.tape,inv.gr.output,inv.gr.size,inv.gr.old,fun b hb=>?_,inv.gr.pr⟩
 ·rw [T.get_set] at hv;split at hv
  ·rename_i hu;cases hv;rw [hu,x1];simp only [Rel];exact ⟨.inr rfl,by rw [ZHl]⟩
  ·exact (h1.2 u v hv).mono hle
 ·have:=inv.le.top;have:=h2.top;simp only [G.grow,G.up];omega
 ·rcases hb with hb|hb
  ·exact inv.le.new b hb
  ·right
   rw [hb,<-h2.top];exact inv.le.top
 ·rcases hb with hb|hb
  ·rcases inv.gr.img b hb with ⟨b0,q1,q2⟩|q1
   ·exact .inl ⟨b0,q1,by rw [hle.β b hb];exact q2⟩
   ·exact .inr (by rw [hle.β b hb];exact q1)
  ·exact .inr (by rw [hb,ZHl];exact x2)
end
theorem ZJI {n1 i:Nat} (hi:i<n1):(pre n1 ops)[i]? =ops[i]? :=by
 unfold pre;rw [jR,yG,if_pos hi,qK]
theorem ZMJ {n1 i:Nat} (hi:n1<=i):(pre n1 ops)[i]? =none:=by
 unfold pre;rw [jR,yG,if_neg Zo]
theorem ZMW {n1:Nat} (hn:n1<=ops.size):(pre n1 ops).size=n1:=by
 unfold pre;simp;omega
theorem ZMR {a b:Nat} (h:Nat.blt a b=true):a<b:=by rwa [jA] at h
structure Tl (n1:Nat) (ops:Array Oper):Prop where
 le:n1<=ops.size
 gu: ∀i o j b,ops[i]? =some o->i<n1->o.guard=some (j,b)->j<n1
 bi: ∀i o j,ops[i]? =some o->n1<=i->j<i-> ∃ed∈o.after,ed.on=j/\Region.binds .any ed=true
 on: ∀i o,ops[i]? =some o->n1<=i-> ∀ed∈o.after,Region.binds .any ed=true->ed.on<i
theorem ZKu {n1:Nat} (hc:ZMx n1 ops=true):Tl n1 ops:=by
 unfold ZMx at hc;rw [qH] at hc;obtain ⟨h1,h2⟩:=hc;have key: ∀i o,ops[i]? =some o->(if Nat.blt i n1 then (match o.guard with|some (j,_)=>Nat.blt j n1|none=>true) else (List.range i).all (fun j=>o.after.any fun ed=>Nat.beq ed.on j && Region.binds .any ed) && o.after.all fun ed=> !Region.binds .any ed||Nat.blt ed.on i)=true:=fun i o ho=>by
  have:=List.all_eq_true.1 h2 i (List.mem_range.2 (Array.getElem?_eq_some_iff.1 ho).1);rw [ho] at this;exact this
 have hno: ∀i,n1<=i->Nat.blt i n1=false:=fun i hi=>by
  rw [jJ];intro hb;have:=ZMR hb;omega
 refine ⟨j8 h1,fun i o j b ho hi hg=>?_,fun i o j ho hi hj=>?_,fun i o ho hi ed he hb=>?_⟩
 ·have:=key i o ho;rw [if_pos (show Nat.blt i n1=true by rw [jA];exact hi),hg] at this;exact ZMR this
 ·have:=key i o ho;rw [hno i hi] at this;simp only [qW,if_false,qH] at this;have:=List.all_eq_true.1 this.1 j (List.mem_range.2 hj);rw [Array.any_eq_true] at this;obtain ⟨x,hx,hb⟩:=this;rw [qH] at hb;exact ⟨o.after[x],Array.getElem_mem hx,qE hb.1,hb.2⟩
 ·have:=key i o ho;rw [hno i hi] at this;simp only [qW,if_false,qH] at this;have h3:=this.2;rw [Array.all_eq_true] at h3;obtain ⟨x,hx,rfl⟩:=Array.getElem_of_mem he;have:=h3 x hx;simp only [hb,yA,kE] at this;exact ZMR this
theorem ZMG {n1:Nat} (ht:Tl n1 ops) {j:Nat} (hj:j<n1) {K:Act->World->Prop} {Q:Exit->Act->World->Prop} (hw:wpOpIn (FR R) 0 P (pre n1 ops) Q j K a w):wpOpIn (FR R) 0 P ops Q j K a w:=by
 unfold wpOpIn at hw⊢;rw [ZJI hj] at hw;cases ho:ops[j]? with
 | none=>rw [ho] at hw;exact hw
 | some o=>
   rw [ho] at hw;simp only at hw⊢;have hwa:Region.wanted o (yielded (pre n1 ops) a.tmps)=Region.wanted o (yielded ops a.tmps):=by
     unfold Region.wanted;split
     · rfl
     · rename_i x want hg;unfold yielded;rw [ZJI (ht.gu j o x want ho hj hg)]
   rwa [hwa] at hw
def Upto (ops:Array Oper) (k:Nat) (listed:Array Bool):Prop:=listed.size=ops.size/\ ∀i,i<ops.size->listed.getD i false=decide (i<k)
theorem ZIJ {listed:Array Bool} {i:Nat} (hi:i<listed.size) (x y:Bool):listed.getD i x=listed.getD i y:=by simp [Array.getD,hi]
theorem ZMK (hF:Zcv P F) {n1:Nat} (ht:Tl n1 ops) {Q:Exit->Act->World->Prop}: ∀(n k:Nat) {g:G} {e:Env} {a:Act} {w:World} {h:H} {listed:Array Bool},k+n=ops.size->n1<=k->Upto ops k listed->HR g h w->EnvR g e a->nt<=a.tmps.size->
   runV P F nt ops (ops.toList.drop k) e h=some (e',h')->Done nt e' h' g w (Q .normal)-> ∀fuel,n<=fuel->wpAnyIn (FR R) 0 P .any ops Q fuel listed a w:=by
 intro n
 induction n with
 | zero=>
   intro k g e a w h listed hk h1 hu hh he hs hx hD fuel _;have hdrop:ops.toList.drop k=[]:=by rw [jQ];simp;omega
   rw [hdrop] at hx;simp only [runV,qB,qF] at hx;obtain ⟨rfl,rfl⟩:=hx;have hq:=hD a w g he hs hh (Le.refl g) (Grew.refl _ _);have hr:Region.ready .any ops listed=[]:=List.eq_nil_iff_forall_not_mem.2 fun j hj=>by
     obtain ⟨h0,o,ho,_⟩:=mem_ready.1 hj;have hjl:=(Array.getElem?_eq_some_iff.1 ho).1;have:=hu.2 j hjl;rw [ZIJ (by rw [hu.1];exact hjl) false true,h0] at this;simp at this;omega
   cases fuel with
   | zero=>exact ⟨hr,hq⟩
   | succ f=>exact ⟨fun _=>hq,fun j hj=>by rw [hr] at hj;cases hj⟩
 | succ n ih=>
   intro k g e a w h listed hk h1 hu hh he hs hx hD fuel hf;obtain ⟨f,rfl⟩: ∃f,fuel=f+1:=⟨fuel-1,by omega⟩
   have hkl:k<ops.size:=by omega
   have ho:ops[k]? =some (ops[k]'hkl):=qN _;have hdrop:ops.toList.drop k=ops[k]'hkl::ops.toList.drop (k+1):=by
     rw [List.drop_eq_getElem_cons (by simpa using hkl)];simp
   rw [hdrop] at hx;simp only [runV] at hx;split at hx
   · rename_i e1 h1' hst;have hkr:k∈Region.ready .any ops listed:=mem_ready.2 ⟨by
       have:=hu.2 k hkl;rw [ZIJ (by rw [hu.1];exact hkl) false true] at this;simpa using this,_,ho,fun ed he hb=>by
         have hlt:=ht.on k _ ho h1 ed he hb;have:=hu.2 ed.on Zo;simpa [hlt] using this⟩
     refine ⟨fun hr=>(by rw [hr] at hkr;cases hkr),fun j hj=>?_⟩;obtain ⟨h0,o,hoj,hdep⟩:=mem_ready.1 hj;have hjl:=(Array.getElem?_eq_some_iff.1 hoj).1;have hjk:k<=j:=by
       have:=hu.2 j hjl;rw [ZIJ (by rw [hu.1];exact hjl) false true,h0] at this;simpa using this
     have hje:j=k:=by
       rcases j9 k j with hlt|hge
       · obtain ⟨ed,e1,e2,e3⟩:=ht.bi j o k hoj Zo hlt;have h2:=hdep ed e1 e3;rw [e2] at h2;have:=hu.2 k hkl;rw [h2] at this;simp at this
       · omega
     subst hje;refine ZyK hF hh he hs ho hst fun v w' g' r1 r2 r3 r4=>?_;refine ih (j+1) Zo Zo ⟨by simpa using hu.1,fun i hi=>?_⟩ r2 r1 (by rw [Am.Zd6];exact hs) hx (hD.next r3 r4) f Zo;by_cases hij:j=i
     · subst hij;simp [Array.getD,hu.1,hi]
     · rw [getD_set_ne false hij,hu.2 i hi];congr 1;simp only [eq_iff_iff];omega
   · cases hx
section
variable {k0 m t kt el n1:Nat} {ips:List (Nat×V×V)}
variable {s:List Snap} {st:Nat->Env×H} (htl:Tl n1 ops) (hp:Pl (ZG8 k0 m t (pre n1 ops))) (ht:Tr P F nt (ZG8 k0 m t (pre n1 ops)) (sch (ZG8 k0 m t (pre n1 ops))) s st) (hz:st 0=(e,h)) (hl:st (sch (ZG8 k0 m t (pre n1 ops))).length=(e',h'))
 (hF:Zcv P F) (hN:ZHz F) (hck: ∀x∈s,ZJs (ZG8 k0 m t (pre n1 ops)) P F (ZHg (ZG8 k0 m t (pre n1 ops)) s h') e' x=true)
 (hq:LitPl (pre n1 ops) k0 m t) (hem:e.get m=none) (hmt:m<nt) (hkt:P.underlying t=some (.map kt el)) (hips:ZIb m t (pre n1 ops) e' (List.range (pre n1 ops).size)=some ips) (hap:Zxc P kt ips=true)
include htl hp ht hz hl hF hN hck hq hem hmt hkt hips hap
theorem ZND (hg0:HR g0 h w0) {e2:Env} {h2:H} (hx:runV P F nt ops (ops.toList.drop n1) (e'.set m (.map h'.next)) (h'.new (.mapU (ips.map (·.2))))=some (e2,h2)) {Q:Exit->Act->World->Prop} (hD:Done nt e2 h2 g0 w0 (Q .normal)): ∀(fuel:Nat) (listed:Array Bool) {E:Env} {g:G} {a:Act} {w:World},
   listed.size=ops.size->(∀(k:Nat) (o:Oper),ops[k]? =some o->listed.getD k false=true-> ∀ed∈o.after,Region.binds .any ed=true->listed.getD ed.on false=true)->(∀i,n1<=i->listed.getD i false=false)->(listed.toList.take n1).count false+(ops.size-n1)<=fuel->
   Inv P F nt (ZG8 k0 m t (pre n1 ops)) s st e e' h' g0 w0 (fun i=>listed.getD i false) E g a w->Xs ips k0 m w0 (fun i=>listed.getD i false) g a w->wpAnyIn (FR R) 0 P .any ops Q fuel listed a w:=by
 have hsp:(pre n1 ops).size=n1:=ZMW htl.le;have hD2:Done nt (e'.set m (.map h'.next)) (h'.new (.mapU (ips.map (·.2)))) g0 w0 fun a w=> ∀fuel,ops.size-n1<=fuel-> ∀listed,Upto ops n1 listed->wpAnyIn (FR R) 0 P .any ops Q fuel listed a w:=fun a' w' g' r1 r2 r3 r4 r5 fuel hf listed hu=>
   ZMK hF htl (ops.size-n1) n1 (by have:=htl.le;omega) (qG _) hu r3 r1 r2 hx (hD.next r4 r5) fuel hf
 intro fuel
 induction fuel with
 | zero=>
   intro listed E g a w hsz hcl htail hc inv hX;have hall: ∀i,i<n1->listed.getD i false=true:=fun i hi=>by
     have his:i<listed.size:=by have:=htl.le;omega
     cases hb:listed.getD i false with
     | true=>rfl
     | false=>
       exfalso;simp only [Array.getD,his,dif_pos] at hb;have hb:listed[i]=false:=hb;have:0<(listed.toList.take n1).count false:=List.count_pos_iff.2 (yU (i:=i) (by rw [yG,if_pos hi,qK,qN his,hb]));omega
   exact ZKY hp ht hz hl hq hips inv hX hg0 (fun i hi=>hall i Zo) hD2 0 Zo listed ⟨hsz,fun i hi=>by
     by_cases h1:i<n1
     · rw [hall i h1];simp [h1]
     · rw [htail i Zo];simp [h1]⟩
 | succ fuel ih=>
   intro listed E g a w hsz hcl htail hc inv hX;by_cases hall: ∀i,i<n1->listed.getD i false=true
   · exact ZKY hp ht hz hl hq hips inv hX hg0 (fun i hi=>hall i Zo) hD2 (fuel+1) Zo listed ⟨hsz,fun i hi=>by
       by_cases h1:i<n1
       · rw [hall i h1];simp [h1]
       · rw [htail i Zo];simp [h1]⟩
   · refine ⟨fun hr=>?_,fun j hj=>?_⟩
     · exfalso;obtain ⟨i,hi⟩:=Classical.not_forall.1 hall;obtain ⟨hi,hif⟩:=Classical.not_imp.1 hi;obtain ⟨j,j1,j2,j3⟩:=Am.Zmv (fun i=>listed.getD i false) n1 ⟨i,hi,by simpa using hif⟩;have hjl:j<ops.size:=by have:=htl.le;omega
       have ho:ops[j]? =some (ops[j]'hjl):=qN _;have ho':(ZG8 k0 m t (pre n1 ops))[j]? =some (if ZJl k0 m t j (ops[j]'hjl) then dull (ops[j]'hjl) else ops[j]'hjl):=by rw [ZHj,ZJI j1,ho];rfl
       have hok:=hp.an j (Array.getElem?_eq_some_iff.1 ho').1;unfold ZMA at hok;rw [ho'] at hok;simp only [qH] at hok;have haf:(if ZJl k0 m t j (ops[j]'hjl) then dull (ops[j]'hjl) else ops[j]'hjl).after=(ops[j]'hjl).after:=by split<;>rfl
       have:j∈Region.ready .any ops listed:=mem_ready.2 ⟨by
         rw [ZIJ Zo true false];exact j2,_,ho,fun ed he hb=>by
           have:=List.all_eq_true.1 hok.1 ed (by rw [haf];simpa using he);simp only [hb,yA,kE,jA] at this;exact j3 _ this⟩
       rw [hr] at this;cases this
     · obtain ⟨hj0,o,ho,hdep⟩:=mem_ready.1 hj;have hjl:=(Array.getElem?_eq_some_iff.1 ho).1;have hjs:j<listed.size:=by omega
       have hj0':listed.getD j false=false:=by rw [ZIJ hjs false true];exact hj0
       have hjn:j<n1:=by
         rcases j9 j n1 with h1|h1
         · exact h1
         · exfalso;refine hall fun i hi=>?_;obtain ⟨ed,q1,q2,q3⟩:=htl.bi j o i ho h1 Zo;have:=hdep ed q1 q3;rwa [q2] at this
       have hcl':Cl (ZG8 k0 m t (pre n1 ops)) fun i=>listed.getD i false:=fun k o2 hk hL ed he hb=>by
         rw [ZHj] at hk;rcases j9 k n1 with hkn|hkn
         · rw [ZJI hkn] at hk;cases hok:ops[k]? with
           | none=>rw [hok] at hk;cases hk
           | some o3=>
             rw [hok] at hk;simp only [jV,qB] at hk;have haf:o2.after=o3.after:=by rw [<-hk];split<;>rfl
             exact hcl k o3 hok hL ed (by rw [<-haf];exact he) hb
         · rw [ZMJ hkn] at hk;cases hk
       refine ZMG htl hjn (ZMw hp ht hz hl hF hN hck hq hem hmt hkt hips hap inv hX hg0 hcl' (by rw [ZJI hjn];exact ho) hj0' hdep fun a' w' E' g' inv' hX'=>?_);have hL:(fun k=>listed.getD k false||k==j)=fun k=>(listed.setIfInBounds j true).getD k false:=by
         funext k
         by_cases hkj:j=k
         · subst hkj;simp [Array.getD,hjs]
         · rw [getD_set_ne false hkj];have:(k==j)=false:=by simp;omega
           rw [this,jF]
       rw [hL] at inv' hX';refine ih _ (by simpa using hsz) (fun k o2 ho2 hk ed he hb=>?_) (fun i hi=>?_) ?_ inv' hX'
       · refine getD_set_true ?_;by_cases hkj:j=k
         · subst hkj;rw [ho] at ho2;cases ho2;exact hdep ed he hb
         · rw [getD_set_ne false hkj] at hk;exact hcl k o2 ho2 hk ed he hb
       · rw [getD_set_ne false Zo];exact htail i hi
       · have hlj:(listed.toList.take n1)[j]? =some false:=by
           simp only [Array.getD,hjs,dif_pos] at hj0;have:listed[j]=false:=hj0;rw [yG,if_pos hjn,qK,qN hjs,this]
         rw [kJ,List.take_set];have:=Am.Zt0 hlj;omega
end
theorem ZKh {x:Env×H} (hx:runL ops P F nt e h=some x): ∃n1 k0 m t kt el e' h' ips,Tl n1 ops/\LitPl (pre n1 ops) k0 m t/\e.get m=none/\m<nt/\P.underlying t=some (.map kt el)/\runD (ZG8 k0 m t (pre n1 ops)) P F nt e h=some (e',h')/\ZIb m t (pre n1 ops) e' (List.range (pre n1 ops).size)=some ips/\Zxc P kt ips=true/\
  runV P F nt ops (ops.toList.drop n1) (e'.set m (.map h'.next)) (h'.new (.mapU (ips.map (·.2))))=some x:=by
 unfold runL at hx;split at hx
 ·rename_i k0 m t _;split at hx
  ·rename_i htl;split at hx
   ·rename_i e1 h1 hr1;unfold ZOq at hr1;split at hr1
    ·rename_i hc;simp only [qH,yX,jA] at hc;split at hr1
     ·rename_i kt el hkt;split at hr1
      ·rename_i e' h' hr;split at hr1
       ·rename_i ips hi;split at hr1
        ·rename_i ha;cases hr1;exact ⟨_,k0,m,t,kt,el,e',h',ips,ZKu htl,ZK4 hc.1.1,hc.1.2,hc.2,hkt,hr,hi,ha,hx⟩
        ·cases hr1
       ·cases hr1
      ·cases hr1
     ·cases hr1
    ·cases hr1
   ·cases hx
  ·cases hx
 ·cases hx
theorem ZJH (hF:ZHz F): ∀(l:List Oper) {e:Env} {h:H} {x:Env×H},runV P F nt ops l e h=some x->h.next<=x.2.next
 | [],e,h,x,hx=>by
   simp only [runV,qB] at hx;subst hx;exact qG _
 | o::l,e,h,x,hx=>by
   simp only [runV] at hx;split at hx
   · rename_i e1 h1 hst;refine kT ?_ (ZJH hF l hx);obtain ⟨b,ov,_,h2,h3,_⟩:=ZHM hst;cases b with
     | true=>exact ZJU hF (h2 rfl)
     | false=>
       have h4:h1=h:=(h3 rfl).2;rw [h4];exact qG _
   · cases hx
theorem ZLO (hN:ZHz F) {x:Env×H} (hx:runL ops P F nt e h=some x):h.next<=x.2.next:=by
 obtain ⟨_,_,_,_,_,_,e',h',_,_,_,_,_,_,hr,_,_,hv⟩:=ZKh hx;exact kT (kT (ZJk hN hr) (Nat.le_succ _)) (ZJH hN _ hv)
theorem ZLu (hF:Zcv P F) (hN:ZHz F) (hh:HR g h w) (he:EnvR g e a) (hs:nt<=a.tmps.size) (hx:runL ops P F nt e h=some (e',h')) {id:Nat} {Q:Exit->Act->World->Prop} (hD:Done nt e' h' g w (Q .normal)):
  (Code.region id ops true).wpIn (FR R) 0 P Q a w:=by
 obtain ⟨n1,k0,m,t,kt,el,e1,h1,ips,htl,hq,hem,hmt,hkt,hr,hips,hap,hv⟩:=ZKh hx;obtain ⟨hp,hfol,s,st,hz,hl,ht,hck⟩:=ZIt hr;refine wpIn_region_any hfol ?_;have hh':HR g h {w with drawn:=w.drawn+1}:=hh.sameHeap rfl;have hD':Done nt e' h' g {w with drawn:=w.drawn+1} (Q .normal):=hD.next (Le.refl g) ⟨rfl,rfl,rfl,qG _,fun _ _ _=>rfl,fun b hb=> .inl ⟨b,hb,rfl⟩,fun _ _=>rfl⟩;have hgetD: ∀i,(Array.replicate ops.size false).getD i false=false:=fun i=>by
  simp only [Array.getD];split
  ·simp
  ·rfl
 obtain ⟨q,q1,q2,q3,q4,_⟩:=ht.heap (h':=h1) (by rw [hl]) (sch (ZG8 k0 m t (pre n1 ops))).length 0 Zo;refine ZND htl hp ht hz hl hF hN hck hq hem hmt hkt hips hap hh' hv hD' ops.size (Array.replicate ops.size false) (E:=e) (g:=g.up (st q).2.next) Zs (fun k o _ hk=>by rw [hgetD] at hk;cases hk) (fun i _=>hgetD i) ?_ ?_ fun hk=>(by simp only [hgetD] at hk;cases hk)
 ·have:=htl.le;simp [List.take_replicate,yT];omega
 have hcnt:cE (ZG8 k0 m t (pre n1 ops)) (fun i=>(Array.replicate ops.size false).getD i false)=0:=by
  unfold cE;rw [xI,List.filter_eq_nil_iff];intro k _;rw [hgetD];simp
 have h0:HR g (st 0).2 {w with drawn:=w.drawn+1}:=by rw [hz];exact hh'
 have hgh:=ZKX ht h0 (jW q) q2 fun r i _ h2 h3=>q4 r i (jW _) h2 h3;have hle: ∀b,b<=(sch (ZG8 k0 m t (pre n1 ops))).length->h.next<=(st b).2.next:=fun b hb=>by
  have:=ht.mono hN (jW _) hb;rw [hz] at this;exact this
 refine ⟨⟨_,by rw [hcnt];rw [List.drop_zero] at q3;exact q3,hgh⟩,he.mono (ZH5 _ _),fun t j _ hL=>?_,fun t _=>rfl,hs,⟨ZH5 _ _,?_,fun b hb=> .inl hb,rfl⟩,(Grew.refl _ _).up _,fun p i o hpos _ _ _ _ hex=>?_⟩
 ·rw [hgetD] at hL;cases hL
 ·show g.top<=(st q).2.next;rw [hh.top];exact hle q q2
 ·have h1:=hh.nx _ hex;have:=hle p (by have:=Am.Zaq hpos;omega);omega
end Go.Cm
end
section
namespace Go.Cm
attribute [local instance] wi0
variable {P:Program} {R:Option Nat} {F:ZaQ} {ops:Array Oper} {nt:Nat} {e e':Env} {h h':H} {g g0:G} {a:Act} {w w' w0:World}
structure Same (h h':H):Prop where
 next:h'.next=h.next
 obs: ∀b,h'.obs.get b=h.obs.get b
 mins: ∀b,h'.mins.get b=h.mins.get b
 tys: ∀b,h'.tys.get b=h.tys.get b
theorem Same.refl (h:H):Same h h:=⟨rfl,fun _=>rfl,fun _=>rfl,fun _=>rfl⟩
theorem Same.low (hs:Same h h'):h'.low=h.low:=funext fun k=>by unfold H.low;rw [hs.mins]
theorem HR.same (hs:Same h h') (hh:HR g h w):HR g h' w:=by
 have ha: ∀{b gr ver:Nat} {kid:Bool} {cs:List V},ZHO g h' b gr ver kid cs->ZHO g h b gr ver kid cs:=fun hx=>⟨by rw [<-hs.obs];exact hx.1,by rw [<-hs.low];exact hx.2.1,hx.2.2⟩
 exact ⟨hh.bs,fun b hb=>by rw [hs.next];exact hh.nx b hb,by rw [hs.next];exact hh.top,fun k m hk=>hh.mins k m (by rw [<-hs.mins];exact hk),fun b cs gr ver kid hb ho=>hh.grp b cs gr ver kid hb (by rw [<-hs.obs];exact ho),hh.blk,
  fun b o hb ho=>by rw [hs.low];exact hh.ob b o hb (by rw [<-hs.obs];exact ho),fun b x hx=>by rw [hs.next];exact hh.tl b x (by rw [<-hs.tys];exact hx),fun b t n hb hx=>hh.ty b t n hb (by rw [<-hs.tys];exact hx),
  fun b b' gr ver kid cs gr' ver' kid' cs' h1 h2=>hh.i1 b b' gr ver kid cs gr' ver' kid' cs' (ha h1) (ha h2),fun b b' gr ver cs ver' kid' cs' h1 h2=>hh.i2 b b' gr ver cs ver' kid' cs' (ha h1) (ha h2),
  fun b b' gr ver cs ver' cs' h1 h2 h3 h4=>hh.i4 b b' gr ver cs ver' cs' h1 h2 (by rw [<-hs.obs];exact h3) (by rw [<-hs.obs];exact h4),fun b o b' h1 h2=>hh.dm b o b' h1 (by rw [<-hs.obs];exact h2),hh.dt⟩
theorem ZK7 {b o:Nat} {xs:List V} (hw:h.wr b o xs=some h'): ∃cs gr ver cs',h.obs.get b=some (.cells cs gr ver false)/\(h.low gr<=ver/\xs.all V.one=true)/\putC cs o xs=some cs'/\h'=⟨h.next,h.obs.set b (.cells cs' gr ver false),if h.low gr==ver then h.mins else h.mins.set gr ver,h.tys⟩:=by
 unfold H.wr at hw;split at hw
 ·rename_i cs gr ver ho;split at hw
  ·rename_i hc;split at hw
   ·rename_i cs' hp;cases hw;exact ⟨cs,gr,ver,cs',ho,hc,hp,rfl⟩
   ·cases hw
  ·cases hw
 ·cases hw
theorem ZJi {gr ver:Nat} (k:Nat):(if h.low gr==ver then h.mins else h.mins.set gr ver).get k=if k=gr/\h.low gr≠ver then some ver else h.mins.get k:=by
 by_cases hl:h.low gr=ver
 ·simp [hl]
 ·have:(h.low gr==ver)=false:=by simpa using hl
  rw [this];simp only [qW,if_false,T.get_set];by_cases hk:k=gr<;>simp [hk,hl]
theorem ZM9 {b1 o1 b2 o2:Nat} {x1 x2:List V} {h2 h3:H} (h1w:h.wr b1 o1 x1=some h2) (h2w:h2.wr b2 o2 x2=some h3) (hb:b1≠b2) {g1 g2:Nat} (hg1:ZLH h b1=some g1) (hg2:ZLH h b2=some g2) (hg:g1≠g2):
  ∃h2' h3',h.wr b2 o2 x2=some h2'/\h2'.wr b1 o1 x1=some h3'/\Same h3' h3:=by
 obtain ⟨cs1,gr1,ver1,cs1',p1,p2,p3,rfl⟩:=ZK7 h1w;obtain ⟨cs2,gr2,ver2,cs2',q1,q2,q3,rfl⟩:=ZK7 h2w;have q1':h.obs.get b2=some (.cells cs2 gr2 ver2 false):=by rw [T.get_set_ne _ _ (qY hb)] at q1;exact q1
 have e1:gr1=g1:=by unfold ZLH at hg1;rw [p1] at hg1;exact qR hg1
 have e2:gr2=g2:=by unfold ZLH at hg2;rw [q1'] at hg2;exact qR hg2
 have hgr:gr1≠gr2:=by rw [e1,e2];exact hg
 have low2: ∀(o:T O),(⟨h.next,o,if h.low gr1==ver1 then h.mins else h.mins.set gr1 ver1,h.tys⟩:H).low gr2=h.low gr2:=fun o=>by
  show ((if h.low gr1==ver1 then h.mins else h.mins.set gr1 ver1).get gr2).getD 0=_;rw [ZJi,if_neg (fun hh=>hgr hh.1.symm)];rfl
 have low1: ∀(o:T O),(⟨h.next,o,if h.low gr2==ver2 then h.mins else h.mins.set gr2 ver2,h.tys⟩:H).low gr1=h.low gr1:=fun o=>by
  show ((if h.low gr2==ver2 then h.mins else h.mins.set gr2 ver2).get gr1).getD 0=_;rw [ZJi,if_neg (fun hh=>hgr hh.1)];rfl
 rw [low2] at q2;have w2:h.wr b2 o2 x2=some ⟨h.next,h.obs.set b2 (.cells cs2' gr2 ver2 false),if h.low gr2==ver2 then h.mins else h.mins.set gr2 ver2,h.tys⟩:=by
  unfold H.wr;rw [q1'];simp only [if_pos q2,q3]
 refine ⟨_,⟨h.next,(h.obs.set b2 (.cells cs2' gr2 ver2 false)).set b1 (.cells cs1' gr1 ver1 false),if h.low gr1==ver1 then (if h.low gr2==ver2 then h.mins else h.mins.set gr2 ver2) else (if h.low gr2==ver2 then h.mins else h.mins.set gr2 ver2).set gr1 ver1,h.tys⟩,w2,?_,?_⟩
 ·unfold H.wr;simp only [T.get_set_ne _ _ hb,p1,low1,if_pos p2,p3]
 ·refine ⟨rfl,fun b=>?_,fun b=>?_,fun _=>rfl⟩
  ·simp only [T.get_set];by_cases y1:b=b1
   ·subst y1;simp [hb]
   ·by_cases y2:b=b2
    ·subst y2;simp [qY hb]
    ·simp [y1,y2]
  ·have m1:=ZJi (h:=h) (gr:=gr1) (ver:=ver1) b;have m2:=ZJi (h:=h) (gr:=gr2) (ver:=ver2) b;simp only [low2];by_cases l1:h.low gr1=ver1<;>by_cases l2:h.low gr2=ver2
   ·simp [l1,l2]
   ·have f2:(h.low gr2==ver2)=false:=by simpa using l2
    simp [l1,f2]
   ·have f1:(h.low gr1==ver1)=false:=by simpa using l1
    simp [f1,l2]
   ·have f1:(h.low gr1==ver1)=false:=by simpa using l1
    have f2:(h.low gr2==ver2)=false:=by simpa using l2
    simp only [f1,f2,qW,if_false,T.get_set];by_cases y1:b=gr1
    ·subst y1;simp [hgr]
    ·simp [y1]
theorem ZIm {t:TypeId} {x v:V} (hs:ZJd P h t x v=some h'): ∃b o,x= .ptr b o/\(szOf P t==some v.cells.length)=true/\h.wr b o v.cells=some h':=by
 unfold ZJd at hs;split at hs
 ·rename_i b o;split at hs
  ·rename_i hc;exact ⟨b,o,rfl,hc,hs⟩
  ·cases hs
 ·cases hs
theorem ZHS {o:Oper} (hs:ZHD P e h o=some h'): ∃t x y u v,ZIP o.op=some (t,x,y)/\ev e x=some u/\ev e y=some v/\ZJd P h t u v=some h':=by
 unfold ZHD at hs;split at hs
 ·rename_i t x y ho;split at hs
  ·rename_i u v h1 h2;exact ⟨t,x,y,u,v,ho,h1,h2,hs⟩
  ·cases hs
 ·cases hs
theorem ZLD {op:Op} {t:TypeId} {x y:Operand} (hs:ZIP op=some (t,x,y)):op= .store t x y:=by
 cases op<;>simp [ZIP] at hs;obtain ⟨rfl,rfl,rfl⟩:=hs;rfl
theorem ZKM {o1 o2:Oper} {h2 h3:H} (x1:ZHD P e h o1=some h2) (x2:ZHD P e h2 o2=some h3) {b1 b2 g1 g2:Nat} (p1:ZL8 e o1=some b1) (p2:ZL8 e o2=some b2) (hb:b1≠b2) (hg1:ZLH h b1=some g1) (hg2:ZLH h b2=some g2) (hg:g1≠g2):
  ∃h2' h3',ZHD P e h o2=some h2'/\ZHD P e h2' o1=some h3'/\Same h3' h3:=by
 obtain ⟨t1,a1,y1,u1,v1,s1,s2,s3,s4⟩:=ZHS x1;obtain ⟨t2,a2,y2,u2,v2,r1,r2,r3,r4⟩:=ZHS x2;obtain ⟨c1,q1,rfl,z1,w1⟩:=ZIm s4;obtain ⟨c2,q2,rfl,z2,w2⟩:=ZIm r4;have e1:c1=b1:=by unfold ZL8 at p1;rw [s1] at p1;simp only [s2] at p1;exact qR p1
 have e2:c2=b2:=by unfold ZL8 at p2;rw [r1] at p2;simp only [r2] at p2;exact qR p2
 subst e1;subst e2;obtain ⟨h2',h3',k1,k2,k3⟩:=ZM9 w1 w2 hb hg1 hg2 hg;refine ⟨h2',h3',?_,?_,k3⟩
 ·unfold ZHD;simp only [r1,r2,r3,ZJd,z2,if_true,k1]
 ·unfold ZHD;simp only [s1,s2,s3,ZJd,z1,if_true,k2]
section
variable {i1 i2:Nat}
theorem ZHR (i:Nat):(ZHt i1 i2 ops)[i]? =(ops[i]?).map fun o=>if Nat.beq i i1||Nat.beq i i2 then dull o else o:=by simp [ZHt,Array.getElem?_mapIdx]
theorem ZLx:(ZHt i1 i2 ops).size=ops.size:=by simp [ZHt]
theorem ZLX {i:Nat}:(Nat.beq i i1||Nat.beq i i2)=true↔i=i1∨i=i2:=by
 rw [qL];exact ⟨fun h=>h.imp qE qE,fun h=>h.imp (fun e=>by rw [e];exact kY _) fun e=>by rw [e];exact kY _⟩
theorem ZI7 {i:Nat} (h1:i≠i1) (h2:i≠i2):(ZHt i1 i2 ops)[i]? =ops[i]? :=by
 rw [ZHR];have:(Nat.beq i i1||Nat.beq i i2)=false:=by rw [jJ];exact fun h=>(ZLX.1 h).elim h1 h2
 simp [this]
theorem ZKK {i:Nat} {o:Oper} (h:(ZHt i1 i2 ops)[i]? =some o): ∃o',ops[i]? =some o'/\o.after=o'.after:=by
 rw [ZHR] at h;simp only [qC] at h;obtain ⟨o',h1,h2⟩:=h;exact ⟨o',h1,by rw [<-h2];split<;>rfl⟩
theorem ZIv {o:Oper} (h:isSt o=true): ∃t x y,o.op= .store t x y/\o.dst=none/\o.guard=none:=by
 unfold isSt at h;simp only [qH,yX] at h;obtain ⟨⟨h1,h2⟩,h3⟩:=h;obtain ⟨⟨t,x,y⟩,h4⟩:=Option.isSome_iff_exists.1 h1;exact ⟨t,x,y,ZLD h4,h2,h3⟩
theorem ZI4 (hs: ∀i o,ops[i]? =some o->i=i1∨i=i2->isSt o=true) (i:Nat):ZHi (ZHt i1 i2 ops) i=ZHi ops i:=by
 unfold ZHi;rw [ZHR];cases ho:ops[i]? with
 | none=>rfl
 | some o=>
   simp only [jV,jX];split
   · rename_i hb;obtain ⟨_,_,_,_,hd,_⟩:=ZIv (hs i o ho (ZLX.1 hb));rw [hd];rfl
   · rfl
theorem ZKW (hs: ∀i o,ops[i]? =some o->i=i1∨i=i2->isSt o=true) {j:Nat} (h1:j≠i1) (h2:j≠i2) {K:Act->World->Prop} {Q:Exit->Act->World->Prop} (hw:wpOpIn (FR R) 0 P (ZHt i1 i2 ops) Q j K a w):wpOpIn (FR R) 0 P ops Q j K a w:=by
 unfold wpOpIn at hw⊢;rw [ZI7 h1 h2] at hw;cases ho:ops[j]? with
 | none=>rw [ho] at hw;exact hw
 | some o=>
   rw [ho] at hw;simp only at hw⊢;have hwa:Region.wanted o (yielded (ZHt i1 i2 ops) a.tmps)=Region.wanted o (yielded ops a.tmps):=by
     unfold Region.wanted;split
     · rfl
     · rename_i x want hg;congr 1;unfold yielded;have:=ZI4 hs x;unfold ZHi at this;rw [this]
   rwa [hwa] at hw
def HC (h2 h2' h3:H):Bool->Bool->H->Prop
 | true,false,hc=>hc=h2
 | false,true,hc=>hc=h2'
 | true,true,hc=>Same hc h3
 | false,false,_=>False
structure Ph2 (ops:Array Oper) (nt:Nat) (i1 i2:Nat) (h2 h2' h3:H) (e e':Env) (g0:G) (w0:World) (L:Nat->Bool) (E:Env) (g:G) (a:Act) (w:World):Prop where
 hr: ∃hc,HC h2 h2' h3 (L i1) (L i2) hc/\HR g hc w
 env:EnvR g E a
 ep1: ∀(t j:Nat),ZHi ops j=some t->L j=true->E.get t=e'.get t
 ep2: ∀t:Nat,(∀j,ZHi ops j=some t->L j=false)->E.get t=e.get t
 sz:nt<=a.tmps.size
 le:Le g0 g
 gr:Grew g0 w0 g w
variable {h1 h2 h2' h3 h3':H} {o1 o2:Oper}
variable {s:List Snap} {st:Nat->Env×H} (hp:Pl (ZHt i1 i2 ops)) (ht:Tr P F nt (ZHt i1 i2 ops) (sch (ZHt i1 i2 ops)) s st) (hz:st 0=(e,h)) (hl:st (sch (ZHt i1 i2 ops)).length=(e',h1))
 (hF:Zcv P F) (hN:ZHz F) (hck: ∀x∈s,ZJs (ZHt i1 i2 ops) P F (ZHg (ZHt i1 i2 ops) s h1) e' x=true)
 (hne:i1≠i2) (ho1:ops[i1]? =some o1) (ho2:ops[i2]? =some o2) (chk: ∀i,i<ops.size->ZJM (ZHt i1 i2 ops) ops i1 i2 P F nt e' h1 i=true)
 (x1:ZHD P e' h1 o1=some h2) (x2:ZHD P e' h2 o2=some h3) (y2:ZHD P e' h1 o2=some h2') (y1:ZHD P e' h2' o1=some h3') (sm:Same h3' h3)
include chk in
theorem ZN0: ∀i o,ops[i]? =some o->i=i1∨i=i2->isSt o=true/\ZH4 (ZHt i1 i2 ops) i (ZHr o.op)=true/\ ∀k∈effs (ZHt i1 i2 ops),(anc (ZHt i1 i2 ops) i).testBit k=true:=fun i o ho hi=>by
 have:=chk i (Array.getElem?_eq_some_iff.1 ho).1;unfold ZJM at this;rw [ho] at this;simp only [if_pos (ZLX.2 hi),qH,List.all_eq_true] at this;exact ⟨this.1.1,this.1.2,this.2⟩
include hp ht hz hl in
theorem ZJW {L:Nat->Bool} {E:Env} (hcl:Cl (ZHt i1 i2 ops) L) (hd: ∀i,ZHi (ZHt i1 i2 ops) i=ZHi ops i) (ep1: ∀(t j:Nat),ZHi ops j=some t->L j=true->E.get t=e'.get t) (ep2: ∀t:Nat,(∀j,ZHi ops j=some t->L j=false)->E.get t=e.get t)
  {i:Nat} {o':Oper} (ho':(ZHt i1 i2 ops)[i]? =some o') (hdep: ∀ed∈o'.after,Region.binds .any ed=true->L ed.on=true) {l:List Operand} (hr:ZH4 (ZHt i1 i2 ops) i l=true):Agr E e' l:=by
 refine Agr.of fun t htm=>?_;by_cases hw: ∃j,ZHi ops j=some t
 ·obtain ⟨j,hj⟩:=hw;have hjl:j<(ZHt i1 i2 ops).size:=ZIi (by rw [hd];exact hj);unfold ZH4 at hr;have:=List.all_eq_true.1 (List.all_eq_true.1 hr t htm) j (List.mem_range.2 hjl);rw [hd,hj] at this;simp only [bne_self_eq_false,kE] at this;exact ep1 t j hj (ZG9 hp hcl i o' ho' hdep j this)
 ·have hn: ∀j,ZHi ops j≠some t:=fun j hj=>hw ⟨j,hj⟩;rw [ep2 t fun j hj=>absurd hj (hn j)];have:=ZLn hp ht hz hl (p:=(sch (ZHt i1 i2 ops)).length) (t:=t) (fun j=>by rw [hd];exact hn j) (qG _);rw [hl] at this;exact this.symm
theorem ZJy {E:Env} {hc hd:H} {o:Oper} (hs:isSt o=true) (hagr:Agr E e' (ZHr o.op)) (hx:ZHD P e' hc o=some hd):ZJc P F nt ops o E hc=some (E,hd):=by
 obtain ⟨t,x,y,q1,q2,q3⟩:=ZIv hs;obtain ⟨t',x',y',u,v,r1,r2,r3,r4⟩:=ZHS hx;rw [q1] at r1;simp only [ZIP,qB,qF] at r1;obtain ⟨rfl,rfl,rfl⟩:=r1;unfold ZJc;have hg:goes ops o E=some true:=by unfold goes;rw [q3]
 rw [hg];simp only [q1,opV];rw [q1] at hagr;rw [hagr x (by simp [ZHr]),hagr y (by simp [ZHr]),r2,r3];simp only [r4,jV,q2,putE]
include hp ht hz hl hF hN hck hne ho1 ho2 chk x1 x2 y2 y1 sm
theorem ZMX (hg0:HR g0 h w0) {Q:Exit->Act->World->Prop} (hD:Done nt e' h3 g0 w0 (Q .normal)): ∀(fuel:Nat) (listed:Array Bool) {E:Env} {g:G} {a:Act} {w:World},
   listed.size=ops.size->(∀(k:Nat) (o:Oper),ops[k]? =some o->listed.getD k false=true-> ∀ed∈o.after,Region.binds .any ed=true->listed.getD ed.on false=true)->listed.toList.count false<=fuel->
   ((Inv P F nt (ZHt i1 i2 ops) s st e e' h1 g0 w0 (fun i=>listed.getD i false) E g a w/\listed.getD i1 false=false/\listed.getD i2 false=false)∨Ph2 ops nt i1 i2 h2 h2' h3 e e' g0 w0 (fun i=>listed.getD i false) E g a w)->wpAnyIn (FR R) 0 P .any ops Q fuel listed a w:=by
 have hst:=fun i o ho hi=>(ZN0 chk i o ho hi).1;have hd:=ZI4 hst;have l1:=(Array.getElem?_eq_some_iff.1 ho1).1;have l2:=(Array.getElem?_eq_some_iff.1 ho2).1;have fin: ∀(listed:Array Bool) {E:Env} {g:G} {a:Act} {w:World},listed.size=ops.size->(∀i,i<ops.size->listed.getD i false=true)->
     ((Inv P F nt (ZHt i1 i2 ops) s st e e' h1 g0 w0 (fun i=>listed.getD i false) E g a w/\listed.getD i1 false=false/\listed.getD i2 false=false)∨Ph2 ops nt i1 i2 h2 h2' h3 e e' g0 w0 (fun i=>listed.getD i false) E g a w)->Q .normal a w:=by
   intro listed E g a w hsz hall hor;rcases hor with ⟨_,hb,_⟩|ph
   · rw [hall i1 l1] at hb;cases hb
   · obtain ⟨hc,q1,q2⟩:=ph.hr;simp only [hall i1 l1,hall i2 l2,HC] at q1;refine hD a w g ⟨ph.env.1,fun t v hv=>ph.env.2 t v ?_⟩ ph.sz (q2.same q1) ph.le ph.gr;by_cases hw: ∃j,ZHi ops j=some t
     · obtain ⟨j,hj⟩:=hw;rw [ph.ep1 t j hj (hall j (ZIi hj))];exact hv
     · have hn: ∀j,ZHi ops j≠some t:=fun j hj=>hw ⟨j,hj⟩;rw [ph.ep2 t fun j hj=>absurd hj (hn j)];have:=ZLn hp ht hz hl (p:=(sch (ZHt i1 i2 ops)).length) (t:=t) (fun j=>by rw [hd];exact hn j) (qG _);rw [hl] at this;rw [<-this];exact hv
 intro fuel
 induction fuel with
 | zero=>
   intro listed E g a w hsz hcl hc hor;have hall: ∀i,i<ops.size->listed.getD i false=true:=fun i hi=>by
     have his:i<listed.size:=by omega
     simp only [Array.getD,his,dif_pos];cases hb:listed[i] with
     | true=>simp [hb]
     | false=>
       exfalso;have:0<listed.toList.count false:=List.count_pos_iff.2 (by rw [<-hb];simp);omega
   refine ⟨?_,fin listed hsz hall hor⟩;refine List.eq_nil_iff_forall_not_mem.2 fun j hj=>?_;obtain ⟨h0,o,ho,_⟩:=mem_ready.1 hj;have hjl:=(Array.getElem?_eq_some_iff.1 ho).1;have:=hall j hjl;have hjs:j<listed.size:=by omega
   simp only [Array.getD,hjs,dif_pos] at h0 this;rw [h0] at this;cases this
 | succ fuel ih=>
   intro listed E g a w hsz hcl hc hor;have hcl':Cl (ZHt i1 i2 ops) fun i=>listed.getD i false:=fun k o hk hL ed he hb=>by
     obtain ⟨o',q1,q2⟩:=ZKK hk;exact hcl k o' q1 hL ed (by rw [<-q2];exact he) hb
   refine ⟨fun hr=>fin listed hsz (fun i hi=>?_) hor,fun j hj=>?_⟩
   · cases hh:listed.getD i false with
     | true=>rfl
     | false=>
       exfalso;obtain ⟨j,j1,j2,j3⟩:=Am.Zmv (fun i=>listed.getD i false) ops.size ⟨i,hi,hh⟩;have ho:ops[j]? =some (ops[j]'j1):=qN _;have hok:=hp.an j (by rw [ZLx];exact j1);have ho':(ZHt i1 i2 ops)[j]? =some (if Nat.beq j i1||Nat.beq j i2 then dull (ops[j]'j1) else ops[j]'j1):=by rw [ZHR,ho];rfl
       unfold ZMA at hok;rw [ho'] at hok;simp only [qH] at hok;have haf:(if Nat.beq j i1||Nat.beq j i2 then dull (ops[j]'j1) else ops[j]'j1).after=(ops[j]'j1).after:=by split<;>rfl
       have:j∈Region.ready .any ops listed:=mem_ready.2 ⟨by rw [ZIJ Zo true false];exact j2,_,ho,fun ed he hb=>by
         have:=List.all_eq_true.1 hok.1 ed (by rw [haf];simpa using he);simp only [hb,yA,kE,jA] at this;exact j3 _ this⟩
       rw [hr] at this;cases this
   obtain ⟨hj0,o,ho,hdep⟩:=mem_ready.1 hj;have hjl:=(Array.getElem?_eq_some_iff.1 ho).1;have hjs:j<listed.size:=by omega
   have hj0':listed.getD j false=false:=by rw [ZIJ hjs false true];exact hj0
   obtain ⟨o',ho',haf⟩: ∃o',(ZHt i1 i2 ops)[j]? =some o'/\o'.after=o.after:=⟨if Nat.beq j i1||Nat.beq j i2 then dull o else o,by rw [ZHR,ho];rfl,by split<;>rfl⟩
   have hdep': ∀ed∈o'.after,Region.binds .any ed=true->listed.getD ed.on false=true:=fun ed he hb=>hdep ed (by rw [<-haf];exact he) hb;have hL:(fun k=>listed.getD k false||k==j)=fun k=>(listed.setIfInBounds j true).getD k false:=by
     funext k
     by_cases hkj:j=k
     · subst hkj;simp [Array.getD,hjs]
     · rw [getD_set_ne false hkj];have:(k==j)=false:=by simp;omega
       rw [this,jF]
   have nxt: ∀{E:Env} {g:G} {a:Act} {w:World},((Inv P F nt (ZHt i1 i2 ops) s st e e' h1 g0 w0 (fun k=>listed.getD k false||k==j) E g a w/\(listed.getD i1 false||i1==j)=false/\(listed.getD i2 false||i2==j)=false)∨Ph2 ops nt i1 i2 h2 h2' h3 e e' g0 w0 (fun k=>listed.getD k false||k==j) E g a w)->wpAnyIn (FR R) 0 P .any ops Q fuel (listed.setIfInBounds j true) a w:=by
     intro E g a w hor;rw [hL] at hor;have e1:=congrFun hL i1;have e2:=congrFun hL i2;rw [e1,e2] at hor;refine ih _ (by simpa using hsz) (fun k o2 ho2 hk ed he hb=>?_) ?_ hor
     · refine getD_set_true ?_;by_cases hkj:j=k
       · subst hkj;rw [ho] at ho2;cases ho2;exact hdep ed he hb
       · rw [getD_set_ne false hkj] at hk;exact hcl k o2 ho2 hk ed he hb
     · have hlj:listed.toList[j]? =some false:=by
         simp only [Array.getD,hjs,dif_pos] at hj0;have:listed[j]=false:=hj0;rw [<-this];simp
       rw [kJ];have:=Am.Zt0 hlj;omega
   have ep1': ∀{E:Env},(∀(t k:Nat),ZHi ops k=some t->listed.getD k false=true->E.get t=e'.get t)->ZHi ops j=none-> ∀(t k:Nat),ZHi ops k=some t->(listed.getD k false||k==j)=true->E.get t=e'.get t:=fun hE hdj t k hk hLk=>by
     rw [qL] at hLk;rcases hLk with hLk|hLk
     · exact hE t k hk hLk
     · have:k=j:=by simpa using hLk
       subst this;rw [hdj] at hk;cases hk
   have ep2': ∀{E:Env},(∀t:Nat,(∀k,ZHi ops k=some t->listed.getD k false=false)->E.get t=e.get t)-> ∀t:Nat,(∀k,ZHi ops k=some t->(listed.getD k false||k==j)=false)->E.get t=e.get t:=fun hE t hk=>hE t fun k hkt=>(jO.1 (hk k hkt)).1;rcases hor with ⟨inv,b1,b2⟩|ph
   · by_cases hjs1:j=i1∨j=i2
     · obtain ⟨s1,s2,s3⟩:=ZN0 chk j o ho hjs1;obtain ⟨_,_,_,_,hdst,_⟩:=ZIv s1;have hdj:ZHi ops j=none:=by unfold ZHi;rw [ho];exact hdst
       have ie1: ∀(t k:Nat),ZHi ops k=some t->listed.getD k false=true->E.get t=e'.get t:=fun t k hk=>inv.ep1 t k (by rw [hd];exact hk);have ie2: ∀t:Nat,(∀k,ZHi ops k=some t->listed.getD k false=false)->E.get t=e.get t:=fun t hk=>inv.ep2 t fun k hkt=>hk k (by rw [<-hd];exact hkt);have hagr:=ZJW hp ht hz hl (L:=fun i=>listed.getD i false) hcl' hd ie1 ie2 ho' hdep' s2;have hh1:HR g h1 w:=by
         obtain ⟨hc,q1,q2⟩:=inv.hr;have hcnt:cE (ZHt i1 i2 ops) (fun i=>listed.getD i false)=cntE (ZHt i1 i2 ops) (sch (ZHt i1 i2 ops)) (sch (ZHt i1 i2 ops)).length:=by
           unfold cE cntE;rw [List.take_length,hp.fi];congr 1;exact List.filter_eq_self.2 fun k hk=>ZG9 hp hcl' j o' ho' hdep' k (s3 k hk)
         have hlast:=ht.heaps (h':=h1) (sch (ZHt i1 i2 ops)).length (qG _) 0;have hdrop:s.drop (sch (ZHt i1 i2 ops)).length=[]:=by rw [jQ];rw [ht.len];exact qG _
         rw [jL,<-hcnt,q1,hdrop] at hlast;simp only [ZHg,kF,qB] at hlast;subst hlast;exact q2
       have go: ∀{hd':H},ZHD P e' h1 o=some hd'->HC h2 h2' h3 (listed.getD i1 false||i1==j) (listed.getD i2 false||i2==j) hd'->wpOpIn (FR R) 0 P ops Q j (wpAnyIn (FR R) 0 P .any ops Q fuel (listed.setIfInBounds j true)) a w:=fun hx hHC=>by
         refine ZyK hF hh1 inv.env inv.sz ho (ZJy s1 hagr hx) fun v w' g' r1 r2 r3 r4=>nxt (E:=E) (g:=g') (.inr ?_);exact ⟨⟨_,hHC,r2⟩,r1,ep1' ie1 hdj,ep2' ie2,by rw [Am.Zd6];exact inv.sz,inv.le.trans r3,inv.gr.trans r4⟩
       rcases hjs1 with rfl|rfl
       · rw [ho1] at ho;cases ho;refine go x1 ?_;have:(i2==j)=false:=by simpa using qY hne
         rw [b1,b2,this,beq_self_eq_true];rfl
       · rw [ho2] at ho;cases ho;refine go y2 ?_;have:(i1==j)=false:=by simpa using hne
         rw [b1,b2,this,beq_self_eq_true];rfl
     · have n1:j≠i1:=fun h=>hjs1 (.inl h);have n2:j≠i2:=fun h=>hjs1 (.inr h);refine ZKW hst n1 n2 (ZJj hp ht hz hl hF hN hck inv hg0 hcl' (by rw [ZI7 n1 n2];exact ho) hj0' hdep fun v w' E' g' inv' r1 r2=>nxt (E:=E') (g:=g') (.inl ⟨inv',?_,?_⟩))
       · rw [b1];simpa using qY n1
       · rw [b2];simpa using qY n2
   · obtain ⟨hc,q1,q2⟩:=ph.hr;by_cases hjs1:j=i1∨j=i2
     · obtain ⟨s1,s2,s3⟩:=ZN0 chk j o ho hjs1;obtain ⟨_,_,_,_,hdst,_⟩:=ZIv s1;have hdj:ZHi ops j=none:=by unfold ZHi;rw [ho];exact hdst
       have hagr:=ZJW hp ht hz hl (L:=fun i=>listed.getD i false) hcl' hd ph.ep1 ph.ep2 ho' hdep' s2;have go: ∀{hd':H},ZHD P e' hc o=some hd'->HC h2 h2' h3 (listed.getD i1 false||i1==j) (listed.getD i2 false||i2==j) hd'->wpOpIn (FR R) 0 P ops Q j (wpAnyIn (FR R) 0 P .any ops Q fuel (listed.setIfInBounds j true)) a w:=fun hx hHC=>by
         refine ZyK hF q2 ph.env ph.sz ho (ZJy s1 hagr hx) fun v w' g' r1 r2 r3 r4=>nxt (E:=E) (g:=g') (.inr ?_);exact ⟨⟨_,hHC,r2⟩,r1,ep1' ph.ep1 hdj,ep2' ph.ep2,by rw [Am.Zd6];exact ph.sz,ph.le.trans r3,ph.gr.trans r4⟩
       rcases hjs1 with rfl|rfl
       · rw [ho1] at ho;cases ho;simp only [hj0'] at q1;cases hb2:listed.getD i2 false with
         | false=>rw [hb2] at q1;exact q1.elim
         | true=>
           rw [hb2] at q1;have q1:hc=h2':=q1;subst q1;refine go y1 ?_;rw [hb2,beq_self_eq_true,Bool.or_true,Bool.true_or];exact sm
       · rw [ho2] at ho;cases ho;simp only [hj0'] at q1;cases hb1:listed.getD i1 false with
         | false=>rw [hb1] at q1;exact q1.elim
         | true=>
           rw [hb1] at q1;have q1:hc=h2:=q1;subst q1;refine go x2 ?_;rw [hb1,beq_self_eq_true,Bool.or_true,Bool.true_or];exact Same.refl _
     · have n1:j≠i1:=fun h=>hjs1 (.inl h);have n2:j≠i2:=fun h=>hjs1 (.inr h);have f1:(i1==j)=false:=by simpa using qY n1
       have f2:(i2==j)=false:=by simpa using qY n2
       have hk:=chk j hjl;unfold ZJM at hk;rw [ho] at hk;have hnb: ¬(Nat.beq j i1||Nat.beq j i2)=true:=fun h=>hjs1 (ZLX.1 h);simp only at hk;rw [if_neg hnb] at hk;simp only [qL,qH] at hk;rcases hk with ⟨k1,k2⟩|hk
       · exfalso;have bad: ∀(k:Nat) (ok:Oper),ops[k]? =some ok->listed.getD k false=true->(anc (ZHt i1 i2 ops) k).testBit j=true->False:=fun k ok hok hkL hb=>by
           have hok':(ZHt i1 i2 ops)[k]? =some (if Nat.beq k i1||Nat.beq k i2 then dull ok else ok):=by rw [ZHR,hok];rfl
           have:=ZG9 hp hcl' k _ hok' (hcl' k _ hok' hkL) j hb;rw [hj0'] at this;cases this
         cases c1:listed.getD i1 false with
         | true=>exact bad i1 o1 ho1 c1 k1
         | false=>
           cases c2:listed.getD i2 false with
           | true=>exact bad i2 o2 ho2 c2 k2
           | false=>simp only [c1,c2] at q1;exact q1.elim
       · obtain ⟨⟨⟨m1,m2⟩,m3⟩,m4⟩:=hk;have m1:ZIo o.op=0:=by simpa using m1
         have m2:o.guard=none:=by simpa using m2
         have hagr:=ZJW hp ht hz hl (L:=fun i=>listed.getD i false) hcl' hd ph.ep1 ph.ep2 ho' hdep' m3;split at m4
         · rename_i ov hx hop;have hopE:opV P F E hc o.op=some (ov,hc):=by rw [ZKn hagr];exact (ZKe m1 hop).2 hc
           have hg:goes ops o E=some true:=by unfold goes;rw [m2]
           obtain ⟨E1,hE1⟩: ∃E1,putE nt E o.dst ov=some E1:=by
             cases hdo:o.dst with
             | none=>exact ⟨E,rfl⟩
             | some t=>
               rw [hdo] at m4;simp only [qH,jA] at m4;obtain ⟨t,rfl⟩: ∃t₀:Nat,t₀=t:=⟨t,rfl⟩
               exact ⟨E.set t (ov.getD (.tup [])),by simp only [putE];rw [if_pos m4.1]⟩
           have hsv:ZJc P F nt ops o E hc=some (E1,hc):=by
             unfold ZJc;rw [hg];simp only [hopE,hE1,jV]
           refine ZyK hF q2 ph.env ph.sz ho hsv fun v w' g' r1 r2 r3 r4=>nxt (E:=E1) (g:=g') (.inr ?_);obtain ⟨p1,p2⟩:=ZgW hE1;refine ⟨⟨hc,by rw [f1,f2,jF,jF];exact q1,r2⟩,r1,fun t k hkt hLk=>?_,fun t hk2=>?_,by rw [Am.Zd6];exact ph.sz,ph.le.trans r3,ph.gr.trans r4⟩
           · by_cases htd:o.dst=some t
             · have hm4:=m4;rw [htd] at hm4;simp only [qH] at hm4;rw [(p1 t htd).2,<-ZMc hm4.2]
             · rw [p2 t htd];rw [qL] at hLk;rcases hLk with hLk|hLk
               · exact ph.ep1 t k hkt hLk
               · exfalso;have:k=j:=by simpa using hLk
                 subst this;unfold ZHi at hkt;rw [ho] at hkt;exact htd hkt
           · have htd:o.dst≠some t:=fun hdo=>by
               have:=hk2 j (by unfold ZHi;rw [ho];exact hdo);simp at this
             rw [p2 t htd];exact ph.ep2 t fun k hkt=>(jO.1 (hk2 k hkt)).1
         · cases m4
end
theorem ZKj {x:Env×H} (hx:runC ops P F nt e h=some x): ∃i1 i2 e' h1 o1 o2 h2 b1 b2 g1 g2,i1≠i2/\runD (ZHt i1 i2 ops) P F nt e h=some (e',h1)/\(∀i,i<ops.size->ZJM (ZHt i1 i2 ops) ops i1 i2 P F nt e' h1 i=true)/\ops[i1]? =some o1/\ops[i2]? =some o2/\
  ZHD P e' h1 o1=some h2/\ZL8 e' o1=some b1/\ZL8 e' o2=some b2/\ZHD P e' h2 o2=some x.2/\ZLH h1 b1=some g1/\ZLH h1 b2=some g2/\b1≠b2/\g1≠g2/\x.1=e':=by
 unfold runC at hx;split at hx
 ·rename_i i1 i2 _;split at hx
  ·cases hx
  ·rename_i hne;split at hx
   ·rename_i e' h1 hr;split at hx
    ·rename_i hall;split at hx
     ·rename_i o1 o2 ho1 ho2;split at hx
      ·rename_i h2 b1 b2 q1 q2 q3;split at hx
       ·rename_i h3 g1 g2 r1 r2 r3;split at hx
        ·cases hx
        ·rename_i hb;cases hx;simp only [qL,not_or] at hb;exact ⟨i1,i2,e',h1,o1,o2,h2,b1,b2,g1,g2,fun he=>hne (by rw [he];exact kY _),hr,fun i hi=>List.all_eq_true.1 hall i (List.mem_range.2 hi),ho1,ho2,q1,q2,q3,r1,r2,r3,fun he=>hb.1 (by rw [he];exact kY _),fun he=>hb.2 (by rw [he];exact kY _),rfl⟩
       ·cases hx
      ·cases hx
     ·cases hx
    ·cases hx
   ·cases hx
 ·cases hx
theorem ZIY {o:Oper} (hs:ZHD P e h o=some h'):h'.next=h.next:=by
 obtain ⟨t,x,y,u,v,_,_,_,h4⟩:=ZHS hs;obtain ⟨b,i,_,_,hw⟩:=ZIm h4;obtain ⟨_,_,_,_,_,_,_,rfl⟩:=ZK7 hw;rfl
theorem ZL0 (hN:ZHz F) {x:Env×H} (hx:runC ops P F nt e h=some x):h.next<=x.2.next:=by
 obtain ⟨i1,i2,e',h1,o1,o2,h2,b1,b2,g1,g2,_,hr,_,_,_,q1,_,_,q2,_⟩:=ZKj hx;have:=ZJk hN hr;rw [ZIY q2,ZIY q1];exact this
theorem ZKF (hF:Zcv P F) (hN:ZHz F) (hh:HR g h w) (he:EnvR g e a) (hs:nt<=a.tmps.size) (hx:runC ops P F nt e h=some (e',h')) {id:Nat} {Q:Exit->Act->World->Prop} (hD:Done nt e' h' g w (Q .normal)):
  (Code.region id ops true).wpIn (FR R) 0 P Q a w:=by
 obtain ⟨i1,i2,e2,h1,o1,o2,h2,b1,b2,g1,g2,hne,hr,chk,ho1,ho2,x1,p1,p2,x2,hg1,hg2,hb,hg,he2⟩:=ZKj hx;simp only at he2 x2;subst he2;obtain ⟨h2',h3',y2,y1,sm⟩:=ZKM x1 x2 p1 p2 hb hg1 hg2 hg;obtain ⟨hp,hfol,s,st,hz,hl,ht,hck⟩:=ZIt hr;refine wpIn_region_any hfol ?_;have hh':HR g h {w with drawn:=w.drawn+1}:=hh.sameHeap rfl;have hD':Done nt e' h' g {w with drawn:=w.drawn+1} (Q .normal):=hD.next (Le.refl g) ⟨rfl,rfl,rfl,qG _,fun _ _ _=>rfl,fun b hb=> .inl ⟨b,hb,rfl⟩,fun _ _=>rfl⟩;have hgetD: ∀i,(Array.replicate ops.size false).getD i false=false:=fun i=>by
  simp only [Array.getD];split
  ·simp
  ·rfl
 obtain ⟨q,q1,q2,q3,q4,_⟩:=ht.heap (h':=h1) (by rw [hl]) (sch (ZHt i1 i2 ops)).length 0 Zo;refine ZMX hp ht hz hl hF hN hck hne ho1 ho2 chk x1 x2 y2 y1 sm hh' hD' ops.size (Array.replicate ops.size false) (E:=e) (g:=g.up (st q).2.next) Zs (fun k o _ hk=>by rw [hgetD] at hk;cases hk) (by simp [yT]) (.inl ⟨?_,hgetD _,hgetD _⟩);have hcnt:cE (ZHt i1 i2 ops) (fun i=>(Array.replicate ops.size false).getD i false)=0:=by
  unfold cE;rw [xI,List.filter_eq_nil_iff];intro k _;rw [hgetD];simp
 have h0:HR g (st 0).2 {w with drawn:=w.drawn+1}:=by rw [hz];exact hh'
 have hgh:=ZKX ht h0 (jW q) q2 fun r i _ h2 h3=>q4 r i (jW _) h2 h3;have hle: ∀b,b<=(sch (ZHt i1 i2 ops)).length->h.next<=(st b).2.next:=fun b hb=>by
  have:=ht.mono hN (jW _) hb;rw [hz] at this;exact this
 refine ⟨⟨_,by rw [hcnt];rw [List.drop_zero] at q3;exact q3,hgh⟩,he.mono (ZH5 _ _),fun t j _ hL=>?_,fun t _=>rfl,hs,⟨ZH5 _ _,?_,fun b hb=> .inl hb,rfl⟩,(Grew.refl _ _).up _,fun p i o hpos _ _ _ _ hex=>?_⟩
 ·rw [hgetD] at hL;cases hL
 ·show g.top<=(st q).2.next;rw [hh.top];exact hle q q2
 ·have h1:=hh.nx _ hex;have:=hle p (by have:=Am.Zaq hpos;omega);omega
theorem ZK2 (hN:ZHz F) {x:Env×H} (hx:ZNx ops P F nt e h=some x):h.next<=x.2.next:=by
 unfold ZNx at hx;split at hx
 ·rename_i r hr;cases hx;exact ZJk hN hr
 ·split at hx
  ·rename_i r hr;cases hx;exact ZLO hN hr
  ·exact ZL0 hN hx
theorem ZLP (hF:Zcv P F) (hN:ZHz F) (hh:HR g h w) (he:EnvR g e a) (hs:nt<=a.tmps.size) (hx:ZNx ops P F nt e h=some (e',h')) {id:Nat} {Q:Exit->Act->World->Prop} (hD:Done nt e' h' g w (Q .normal)):
  (Code.region id ops true).wpIn (FR R) 0 P Q a w:=by
 unfold ZNx at hx;split at hx
 ·rename_i r hr;cases hx;exact ZKz hF hN hh he hs hr hD
 ·split at hx
  ·rename_i r hr;cases hx;exact ZLu hF hN hh he hs hr hD
  ·exact ZKF hF hN hh he hs hx hD
end Go.Cm
end
