/- Part. -/
import Derived.Test.YtcdjoaepciegnaaGreatDoorUav
import Derived.Test.YtcdjoaepciegnaaGreatDoorUba
import Derived.Scope
set_option maxRecDepth 999999
set_option maxHeartbeats 0
set_option linter.all false
section
namespace Go.Cm
open Go.Am (Zaw Zhz ZjZ ZuJ Zk0 Zra)
attribute [local instance] wi0
variable {P:Program} {F:ZaQ} {g:G} {e e':Env} {a:Act} {w:World} {h h':H} {ov:Option V} {o:Oper}
def ZGm (P:Program) (f:Nat) (args:List V) (h:H) (v:V) (h':H):Prop:=
 (Zhz P f=true/\ ∀(g:G) (w:World) (vs:List Value),HR g h w->Rels g args vs->
  Calls P f vs.toArray w fun r w'=> ∃u g',r= .returned u/\Rel g' v u/\HR g' h' w'/\Le g g'/\Grew g w g' w')∨
 (h'=h/\ ∀(g:G) (w:World) (vs:List Value),Rels g args vs-> ∃u,(callFunc f vs.toArray).run P w= .ok (.value u) w/\Rel g v u)
def Zcv (P:Program) (F:ZaQ):Prop:= ∀(f:Nat) (args:List V) (h:H) (v:V) (h':H),F f args h=some (v,h')->ZGm P f args h v h'
def OpWp (P:Program) (o:Oper) (a:Act) (w:World) (g:G) (ov:Option V) (h':H):Prop:=
 ∀(K:Act->World->Prop) (Q:Exit->Act->World->Prop),(∀v w' g',Rel g' (ov.getD (.tup [])) v->HR g' h' w'->Le g g'->Grew g w g' w'->K (a.put o.dst v) w')->o.wp P a w K Q
def OpOK.wp (h:OpOK P o a w g ov h'):OpWp P o a w g ov h':=by
 intro K Q hK
 obtain ⟨nx,v,w',g',hr,hv,h1,h2,h3,h4⟩:=h
 have:=hK v w' g' h1 h2 h3 h4
 unfold Oper.wp
 rw [hr]
 rcases hv with rfl|⟨rfl,rfl⟩<;>exact this
def Zye (hF:Zcv P F) (hh:HR g h w) (he:EnvR g e a) {c:Call} (ho:o.op= .call c) (hx:opV P F e h (.call c)=some (ov,h')):OpWp P o a w g ov h':=by
 simp only [opV] at hx
 split at hx
 ·rename_i f args hc hargs
  split at hx
  ·rename_i fv hf
   simp only [YF,YL] at hx
   obtain ⟨⟨z,h1⟩,hz,rfl,rfl⟩:=hx
   unfold ZKv at hz
   split at hz
   ·rename_i f' first caps
    have hfr:=ZDE he hf
    simp only [Rel] at hfr
    obtain ⟨fs,cs,hv,h1,h2⟩:=hfr
    have heq:fs.toArray++c.args.map a.eval++cs.toArray=(fs++c.args.toList.map a.eval++cs).toArray:=by
     apply Array.toList_inj.1
     simp
    have hrs:=(h1.append (ZF6 he hargs)).append h2
    rcases hF _ _ _ _ _ hz with ⟨q1,q2⟩|⟨rfl,q2⟩
    ·have hcall:=q2 g w _ hh hrs
     intro K Q hK
     unfold Oper.wp
     rw [ZjZ ho hc hv q1,Oper.upon_enter]
     rw [heq]
     refine hcall.mono ?_
     rintro r w' ⟨u,g',rfl,r1,r2,r3,r4⟩
     exact hK u w' g' r1 r2 r3 r4
    ·obtain ⟨u,r1,r2⟩:=q2 g w _ hrs
     refine OpOK.wp ⟨.value u,u,w,g,?_,.inl rfl,r2,hh,Le.refl g,Grew.refl _ _⟩
     simp only [execOp,ho,resolve,hc,hv,Deferred.ofValue]
     rw [Sem.run_bind]
     show ((callFunc f' (fs.toArray++c.args.map a.eval++cs.toArray)).run P w)=_
     rw [heq];exact r1
   ·cases hz
  ·cases hx
 ·rename_i b args hc hargs
  simp only [YF,YL] at hx
  obtain ⟨⟨z,h1⟩,hz,rfl,rfl⟩:=hx
  exact (ZHK hh he ho hc hargs hz).wp
 ·cases hx
def Zyz (hF:Zcv P F) (hh:HR g h w) (he:EnvR g e a) (hx:opV P F e h o.op=some (ov,h')):OpWp P o a w g ov h':=by
 generalize hop:o.op=op at hx
 cases op with
 | move x=>exact (ZIQ hh he (.inl hop) hx).wp
 | assign x=>exact (ZIQ hh he (.inr hop) hx).wp
 | pick c x y=>exact (Zyw hh he hop hx).wp
 | alloc el=>exact (ZJZ hh he (by rw [hop];exact hx)).wp
 | box el x=>exact (ZJZ hh he (by rw [hop];exact hx)).wp
 | build t ps=>exact (ZwT hh he hop hx).wp
 | buildSlice t n ps=>exact (ZJZ hh he (by rw [hop];exact hx)).wp
 | load t x=>exact (Zyq hh he hop hx).wp
 | store t x y=>exact (ZJj hh he hop hx).wp
 | nilCheck x=>exact (Zrd hh he hop hx).wp
 | binOp op t x y t'=>exact (ZAE hh he hop hx).wp
 | unOp op t x=>exact (ZKX hh he hop hx).wp
 | convert s d x=>exact (ZHB hh he hop hx).wp
 | makeFunc f x y=>
   cases f with
   | func f=>exact (ZrP hh he hop hx).wp
   | _=>simp [opV] at hx
 | makeMap t r=>exact (ZJZ hh he (by rw [hop];exact hx)).wp
 | makeSlice t l c=>exact (ZJZ hh he (by rw [hop];exact hx)).wp
 | slice t x lo hi mx=>exact (ZwP hh he hop hx).wp
 | fieldAddr t x f=>exact (Zpb hh he hop hx).wp
 | field t x f=>exact (ZJk hh he hop hx).wp
 | indexAddr t x i=>exact (Zo6 hh he hop hx).wp
 | index t x i=>exact (ZJu hh he hop hx).wp
 | lookup t x i ok=>exact (ZtP hh he hop hx).wp
 | mapUpdate t m k x=>exact (Zug hh he (.inl hop) hx).wp
 | insert t m k x=>exact (Zug (F:=F) hh he (.inr hop) hx).wp
 | range t x=>exact (ZJd hh he hop hx).wp
 | next x isS=>exact (ZJO hh he hop hx).wp
 | extract t i=>exact (Zr8 hh he hop hx).wp
 | entry x=>exact (ZJq hh he hop hx).wp
 | call c=>exact Zye hF hh he hop hx
 | _=>simp [opV] at hx
theorem ZEM {ops:Array Oper} (he:EnvR g e a) {b:Bool} (hg:goes ops o e=some b):Region.wanted o (yielded ops a.tmps)=b:=by
 unfold goes at hg
 split at hg
 ·rename_i hn
  cases hg
  simp [Region.wanted,hn]
 ·rename_i j want hn
  split at hg
  ·rename_i oj hoj
   split at hg
   ·rename_i t hdst
    obtain ⟨t,rfl⟩: ∃t₀:Nat,t₀=t:=⟨t,rfl⟩
    have hw: ∀v,a.tmps.getD t undef=v->Region.wanted o (yielded ops a.tmps)=((match v with| .bool b=>some b|_=>none)==some want):=fun v hv=>by
     simp only [Region.wanted,hn,yielded,hoj,hdst,Option.bind_some]
     congr 1
     by_cases hsz:t<a.tmps.size
     ·have:a.tmps[t]? =some v:=by rw [<-hv];simp [hsz]
      rw [this]
      cases v<;>rfl
     ·have h1:a.tmps[t]? =none:=Array.getElem?_eq_none Zo
      have:v=undef:=by rw [<-hv];simp [hsz]
      rw [h1,this];rfl
    split at hg
    ·rename_i c hc
     cases hg
     rw [hw _ (ZD9 (he.2 t _ hc))]
     cases c<;>cases want<;>rfl
    ·rename_i hc
     cases hg
     have:=he.2 t _ hc
     simp only [Rel] at this
     obtain ⟨vs,hv,_⟩:=this
     rw [hw _ hv]
     rfl
    ·cases hg
   ·cases hg
  ·cases hg
def ZyK (hF:Zcv P F) (hh:HR g h w) (he:EnvR g e a) {nt:Nat} (hs:nt<=a.tmps.size) {ops:Array Oper} {i:Nat} (hi:ops[i]? =some o) (hx:ZGx P F nt ops o e h=some (e',h')) {K:Act->World->Prop} {Q:Exit->Act->World->Prop}
  (hK: ∀v w' g',EnvR g' e' (a.put o.dst v)->HR g' h' w'->Le g g'->Grew g w g' w'->K (a.put o.dst v) w'):wpOp P ops Q i K a w:=by
 unfold wpOp
 simp only [hi]
 unfold ZGx at hx
 split at hx
 ·rename_i hg
  rw [ZEM he hg,if_pos rfl]
  split at hx
  ·rename_i v h1 ho
   simp only [YF,YL] at hx
   obtain ⟨e1,hp,rfl,rfl⟩:=hx
   refine .inl (Zyz hF hh he ho K Q fun u w' g' r1 r2 r3 r4=>?_)
   exact hK u w' g' ((he.mono r3).put hs hp r1) r2 r3 r4
  ·cases hx
 ·rename_i hg
  rw [ZEM he hg,if_neg Zs]
  simp only [YF,YL] at hx
  obtain ⟨e1,hp,rfl,rfl⟩:=hx
  exact hK undef w g (he.put hs hp (by simp only [Option.getD_none,Rel];exact ⟨[],rfl,rfl⟩)) hh (Le.refl g) (Grew.refl _ _)
 ·cases hx
def Done (nt:Nat) (e':Env) (h':H) (g:G) (w:World) (Q:Act->World->Prop):Prop:=
 ∀a' w' g',EnvR g' e' a'->nt<=a'.tmps.size->HR g' h' w'->Le g g'->Grew g w g' w'->Q a' w'
def Done.next {nt:Nat} {Q:Act->World->Prop} {g':G} {w':World} (hd:Done nt e' h' g w Q) (hl:Le g g') (hg:Grew g w g' w'):Done nt e' h' g' w' Q:=
 fun a2 w2 g2 h1 h2 h3 h4 h5=>hd a2 w2 g2 h1 h2 h3 (hl.trans h4) (hg.trans h5)
def ZpG (hF:Zcv P F) {nt:Nat} {ops:Array Oper} {Q:Exit->Act->World->Prop}: ∀(n k:Nat) {g:G} {e:Env} {a:Act} {w:World} {h:H},k+n=ops.size->HR g h w->EnvR g e a->nt<=a.tmps.size->
   runV P F nt ops (ops.toList.drop k) e h=some (e',h')->Done nt e' h' g w (Q .normal)->wpOps P ops Q (List.range' k n) a w:=by
 intro n
 induction n with
 | zero=>
   intro k g e a w h hk hh he hs hx hD
   rw [List.drop_of_length_le Ze] at hx
   simp only [runV,Ye,YL] at hx
   obtain ⟨rfl,rfl⟩:=hx
   exact hD a w g he hs hh (Le.refl g) (Grew.refl _ _)
 | succ n ih=>
   intro k g e a w h hk hh he hs hx hD
   have hkl:k<ops.size:=by omega
   rw [List.drop_eq_getElem_cons (by simpa using hkl)] at hx
   rw [List.range'_succ,wpOps_cons]
   simp only [runV] at hx
   split at hx
   · rename_i e1 h1 hst
     refine ZyK hF hh he hs (i:=k) (by simp [hkl]) hst fun v w' g' r1 r2 r3 r4=>?_
     exact ih (k+1) Zo r2 r1 (by rw [Am.Zd6];exact hs) hx (hD.next r3 r4)
   · cases hx
end Go.Cm
end
section
namespace Go.Cm
attribute [local instance] wi0
variable {P:Program} {F:ZaQ} {ops:Array Oper} {nt:Nat} {e e':Env} {h h':H} {g g0:G} {a:Act} {w w0:World}
theorem ZGZ (op:Op):ZEU op=0∨ZEU op=1∨ZEU op=2∨ZEU op=3:=by
 cases op with
 | call c=>
   simp only [ZEU]
   split<;>simp
 | _=>simp [ZEU]
theorem ZJo {i:Nat} {o:Oper} (ho:ops[i]? =some o):isE ops i=true↔ZEU o.op=3:=by
 unfold isE
 rw [ho]
 simp
theorem ZGO {α:Type} {q:α->Bool}: ∀{l:List α} {p:Nat} {i:α},l[p]? =some i->q i=true->(l.filter q)[((l.take p).filter q).length]? =some i
 | x::l,0,i,h,hq=>by
   simp only [Yi,Ye] at h
   subst h
   simp [List.filter_cons,hq]
 | x::l,p+1,i,h,hq=>by
   have ih:=ZGO (l:=l) (p:=p) (by simpa using h) hq
   simp only [List.take_succ_cons,List.filter_cons]
   by_cases hx:q x=true
   · rw [if_pos hx,if_pos hx];simpa using ih
   · rw [if_neg hx,if_neg hx];exact ih
 | [],p,i,h,_=>by simp at h
theorem ZIO (hh:HR g h w):g.up h.next=g:=by
 have:=hh.top
 unfold G.up
 rw [<-this]
section
variable {s:List Snap} {st:Nat->Env×H} (hp:Pl ops) (ht:Tr P F nt ops (sch ops) s st)
include ht
theorem ZIB {a₀:Nat} (hh:HR g (st a₀).2 w) {b:Nat} (hab:a₀<=b) (hb:b<=(sch ops).length) (hn: ∀r i,a₀<=r->r<b->(sch ops)[r]? =some i->isE ops i=false):HR (g.up (st b).2.next) (st b).2 w:=by
 induction b with
 | zero=>
   obtain rfl:a₀=0:=by omega
   rw [ZIO hh];exact hh
 | succ b ih=>
   rcases Yt a₀ (b+1) with hlt|hge
   · have hr:=ih Zo Zo fun r i h1 h2=>hn r i h1 Zo
     have hi:(sch ops)[b]? =some ((sch ops)[b]'(by omega)):=Ya _
     obtain ⟨_,o,ho,hst⟩:=ht.at_ b _ hi
     have hE:=hn b _ Zo (Yz _) hi
     obtain ⟨bb,ov,_,h1,h2,_⟩:=ZEg hst
     have same:(st (b+1)).2=(st b).2->HR (g.up (st (b+1)).2.next) (st (b+1)).2 w:=fun hs=>by rw [hs];exact hr
     cases bb with
     | false=>exact same (h2 rfl).2
     | true=>
       have h1:=h1 rfl
       rcases ZGZ o.op with hc|hc|hc|hc
       · exact same (ZHR hc h1).1
       · exact same (ZHQ hc h1)
       · rw [ZJG hc] at h1
         simp only [mkR,YF,YL] at h1
         obtain ⟨m,_,_,hm⟩:=h1
         rw [<-hm]
         exact hr.ghost _ _
       · have:=(ZJo ho).2 hc
         rw [this] at hE;cases hE
   · obtain rfl:a₀=b+1:=by omega
     rw [ZIO hh];exact hh
end
def cE (ops:Array Oper) (L:Nat->Bool):Nat:=((effs ops).filter L).length
structure Inv (P:Program) (F:ZaQ) (nt:Nat) (ops:Array Oper) (s:List Snap) (st:Nat->Env×H) (e e':Env) (h':H) (g0:G) (w0:World) (L:Nat->Bool) (E:Env) (g:G) (a:Act) (w:World):Prop where
 hr: ∃hc,(ZDR ops s h')[cE ops L]? =some hc/\HR g hc w
 env:EnvR g E a
 ep1: ∀(t j:Nat),ZEl ops j=some t->L j=true->E.get t=e'.get t
 ep2: ∀t:Nat,(∀j,ZEl ops j=some t->L j=false)->E.get t=e.get t
 sz:nt<=a.tmps.size
 le:Le g0 g
 gr:Grew g0 w0 g w
 un: ∀(p i:Nat) (o:Oper),(sch ops)[p]? =some i->ops[i]? =some o->ZEU o.op=2->L i=false->goes ops o (st p).1=some true-> ¬g.ex (st p).2.next
section
variable {s:List Snap} {st:Nat->Env×H} (hp:Pl ops) (ht:Tr P F nt ops (sch ops) s st) (hz:st 0=(e,h)) (hl:st (sch ops).length=(e',h'))
variable {L:Nat->Bool} {E:Env}
include hp ht hz hl
theorem ZHF {p i t:Nat} (hi:(sch ops)[p]? =some i) (hd:ZEl ops i=some t) {b:Nat} (hb:p<b) (hbl:b<=(sch ops).length):(st b).1.get t=(st (p+1)).1.get t:=
 ht.keep Zo hbl fun r k h1 h2 hk hdk=>by
  have:=hp.ds k i t hdk hd
  subst this
  have:=hp.uniq hk hi
  omega
theorem ZGl {p i t j:Nat} (hj:(sch ops)[j]? =some i) (hd:ZEl ops i=some t) (hpj:p<=j):(st p).1.get t=e.get t:=by
 have:=ht.keep (t:=t) (a:=0) (b:=p) (Yd _) (by have:=Am.Zaq hj;omega) fun r k h1 h2 hk hdk=>by
  have:=hp.ds k i t hdk hd
  subst this
  have:=hp.uniq hk hj
  omega
 rw [this,hz]
theorem ZIY {p t:Nat} (hn: ∀i,ZEl ops i≠some t) (hpl:p<=(sch ops).length):(st p).1.get t=e.get t:=by
 have:=ht.keep (t:=t) (a:=0) (b:=p) (Yd _) hpl fun r k h1 h2 hk=>hn k
 rw [this,hz]
theorem ZIX (inv:Inv P F nt ops s st e e' h' g0 w0 L E g a w) (hcl:Cl ops L) {p i:Nat} {o:Oper} (hpos:(sch ops)[p]? =some i) (ho:ops[i]? =some o) (hLi:L i=false) (hrd: ∀ed∈o.after,Region.binds .any ed=true->L ed.on=true):
   ∀t∈ZEp ops o,E.get t=(st p).1.get t:=by
 intro t htr
 have hpl:=Am.Zaq hpos
 by_cases hw: ∃j,ZEl ops j=some t
 · obtain ⟨j,hj⟩:=hw
   have hjl:=ZFE hj
   obtain ⟨q,hq⟩:=hp.pos hjl
   by_cases hji:j=i
   · subst hji
     rw [inv.ep2 t fun k hk=>by rw [hp.ds k j t hk hj];exact hLi]
     exact (ZGl hp ht hz hl hpos hj (Yc _)).symm
   · have hok:=hp.rd i (Array.getElem?_eq_some_iff.1 ho).1
     unfold ZGQ at hok
     rw [ho] at hok
     have:=List.all_eq_true.1 hok j (List.mem_range.2 hjl)
     simp only [hj,Bool.or_eq_true,beq_iff_eq,Bool.not_eq_true'] at this
     rcases this with h0|(h0|h0)|h0
     · exact absurd h0 hji
     · rw [Bool.eq_false_iff] at h0
       exact absurd (List.elem_eq_true_of_mem htr) h0
     · have hLj:=ZDN hp hcl i o ho hrd j h0
       obtain ⟨q',q1,q2⟩:=hp.before hpos h0
       have hqq:=hp.uniq hq q2
       subst hqq
       rw [inv.ep1 t j hj hLj,ZHF hp ht hz hl hq hj q1 Zo]
       have:=ZHF hp ht hz hl hq hj (b:=(sch ops).length) Zo (Yc _)
       rw [hl] at this
       exact this
     · have hoj:ops[j]? =some (ops[j]'hjl):=Array.getElem?_eq_getElem _
       have hLj:L j=false:=by
         cases hLj:L j with
         | false=>rfl
         | true=>
           have:=ZDN hp hcl j _ hoj (fun ed h1 h2=>hcl j _ hoj hLj ed h1 h2) i h0
           rw [hLi] at this;cases this
       obtain ⟨q',q1,q2⟩:=hp.before hq h0
       have hqq:=hp.uniq hpos q2
       subst hqq
       rw [inv.ep2 t fun k hk=>by rw [hp.ds k j t hk hj];exact hLj]
       exact (ZGl hp ht hz hl hq hj (Nat.le_of_lt q1)).symm
 · have hn: ∀j,ZEl ops j≠some t:=fun j hj=>hw ⟨j,hj⟩
   rw [inv.ep2 t fun j hj=>absurd hj (hn j)]
   exact (ZIY hp ht hz hl hn Zo).symm
theorem ZGV (hcl:Cl ops L) {i:Nat} {o:Oper} (ho:ops[i]? =some o) (hLi:L i=false) (hrd: ∀ed∈o.after,Region.binds .any ed=true->L ed.on=true):loOf ops i<=cE ops L/\cE ops L<=hiOf ops i:=by
 refine ⟨ZFQ fun k _ hk=>ZDN hp hcl i o ho hrd k hk,ZFQ fun k hk hLk=>?_⟩
 cases hb:(anc ops k).testBit i with
 | false=>rfl
 | true=>
   have hkl:k<ops.size:=by
     have:=(List.mem_filter.1 hk).1
     simpa using this
   have hok:ops[k]? =some (ops[k]'hkl):=Array.getElem?_eq_getElem _
   have:=ZDN hp hcl k _ hok (fun ed h1 h2=>hcl k _ hok hLk ed h1 h2) i hb
   rw [hLi] at this;cases this
theorem ZGU (hcl:Cl ops L) {i c:Nat} {o:Oper} (ho:ops[i]? =some o) (hc:(effs ops)[c]? =some i) (hLi:L i=false) (hrd: ∀ed∈o.after,Region.binds .any ed=true->L ed.on=true):
  cE ops L=c/\cE ops (fun k=>L k||k==i)=c+1:=by
 have hcl':=Am.Zaq hc
 have hnod: ∀k,(effs ops)[k]? =some i->k=c:=fun k hk=>by
  rcases Nat.lt_trichotomy k c with h1|h1|h1
  ·have:=hp.ef c k i i h1 hc hk
   have:=ZDN hp hcl i o ho hrd i this
   rw [hLi] at this;cases this
  ·exact h1
  ·have:=hp.ef k c i i h1 hk hc
   have:=ZDN hp hcl i o ho hrd i this
   rw [hLi] at this;cases this
 have key: ∀k x,(effs ops)[k]? =some x->(L x=true↔k<c):=fun k x hx=>by
  constructor
  ·intro hLx
   rcases Nat.lt_trichotomy k c with h1|h1|h1
   ·exact h1
   ·subst h1;rw [hc,Ye] at hx;subst hx;rw [hLi] at hLx;cases hLx
   ·have hb:=hp.ef k c x i h1 hx hc
    have hxl:x<ops.size:=by
     have:=(List.mem_filter.1 (YA hx)).1
     simpa using this
    have hox:ops[x]? =some (ops[x]'hxl):=Array.getElem?_eq_getElem _
    have:=ZDN hp hcl x _ hox (fun ed h1 h2=>hcl x _ hox hLx ed h1 h2) i hb
    rw [hLi] at this;cases this
  ·intro hk
   exact ZDN hp hcl i o ho hrd x (hp.ef c k i x hk hc hx)
 refine ⟨ZEb Zo key,ZEb Zo fun k x hx=>?_⟩
 simp only [Bool.or_eq_true,beq_iff_eq,key k x hx]
 constructor
 ·rintro (h1|rfl)
  ·omega
  ·have:=hnod k hx;omega
 ·intro h1
  rcases Yt k c with h2|h2
  ·exact .inl h2
  ·obtain rfl:k=c:=by omega
   rw [hc,Ye] at hx
   exact .inr hx.symm
theorem ZE9 {i:Nat} (hE:isE ops i=false):cE ops (fun k=>L k||k==i)=cE ops L:=by
 unfold cE
 congr 1
 refine List.filter_congr fun k hk=>?_
 have:=(List.mem_filter.1 hk).2
 have hne:(k==i)=false:=by
  rw [beq_eq_false_iff_ne]
  rintro rfl
  rw [hE] at this;cases this
 rw [hne,Bool.or_false]
theorem ZID {p i:Nat} (hpos:(sch ops)[p]? =some i) (hE:isE ops i=true): ∃c,(effs ops)[c]? =some i/\(ZDR ops s h')[c]? =some (st p).2/\
  ∃q,p+1<=q/\q<=(sch ops).length/\(ZDR ops s h')[c+1]? =some (st q).2/\ ∀r k,p+1<=r->r<q->(sch ops)[r]? =some k->isE ops k=false:=by
 have hpl:=Am.Zaq hpos
 refine ⟨cntE ops (sch ops) p,?_,?_,?_⟩
 ·have:=ZGO hpos hE
  rw [hp.fi] at this
  exact this
 ·obtain ⟨q,q1,q2,q3,q4,_⟩:=ht.heap (h':=h') (by rw [hl]) ((sch ops).length-p) p Zo
  have hq:q=p:=by
   rcases Yt p q with h1|h1
   ·have:=q4 p i (Yc _) h1 hpos
    rw [hE] at this;cases this
   ·omega
  subst hq
  have:=ht.heaps (h':=h') q Zo 0
  rw [Nat.add_zero] at this
  rw [this];exact q3
 ·obtain ⟨q,q1,q2,q3,q4,_⟩:=ht.heap (h':=h') (by rw [hl]) ((sch ops).length-(p+1)) (p+1) Zo
  refine ⟨q,q1,q2,?_,q4⟩
  have hc:cntE ops (sch ops) (p+1)=cntE ops (sch ops) p+1:=by
   unfold cntE
   have he:(sch ops)[p]'hpl=i:=by rw [Ya hpl,Ye] at hpos;exact hpos
   rw [List.take_succ_eq_append_getElem hpl,List.filter_append,YE,he]
   simp [List.filter_cons,hE]
  have:=ht.heaps (h':=h') (p+1) Zo 0
  rw [Nat.add_zero,hc] at this
  rw [this];exact q3
theorem ZE3 (inv:Inv P F nt ops s st e e' h' g0 w0 L E g a w) {p i:Nat} {o:Oper} (hpos:(sch ops)[p]? =some i) (ho:ops[i]? =some o) {E1:Env} {ov:Option V} (hput:putE nt E o.dst ov=some E1) (hval: ∀t:Nat,o.dst=some t->e'.get t=some (ov.getD (.tup [])))
  {g':G} {w':World} {v:Value} (hr: ∃hc,(ZDR ops s h')[cE ops (fun k=>L k||k==i)]? =some hc/\HR g' hc w') (henv:EnvR g' E1 (a.put o.dst v)) (hle:Le g0 g') (hgr:Grew g0 w0 g' w')
  (hun: ∀(q k:Nat) (ok:Oper),(sch ops)[q]? =some k->ops[k]? =some ok->ZEU ok.op=2->L k=false->k≠i->goes ops ok (st q).1=some true-> ¬g'.ex (st q).2.next):
  Inv P F nt ops s st e e' h' g0 w0 (fun k=>L k||k==i) E1 g' (a.put o.dst v) w':=by
 have hdi: ∀t,ZEl ops i=some t↔o.dst=some t:=fun t=>by unfold ZEl;rw [ho];rfl
 refine ⟨hr,henv,fun t j hj hL=>?_,fun t hn=>?_,by rw [Am.Zd6];exact inv.sz,hle,hgr,fun q k ok hq hok hc hL hg=>?_⟩
 ·by_cases hd:o.dst=some t
  ·rw [((ZgW hput).1 t hd).2,hval t hd]
  ·rw [(ZgW hput).2 t hd]
   refine inv.ep1 t j hj ?_
   simp only [Bool.or_eq_true,beq_iff_eq] at hL
   rcases hL with hL|rfl
   ·exact hL
   ·exact absurd ((hdi t).1 hj) hd
 ·have hd:o.dst≠some t:=fun hd=>by
   have:=hn i ((hdi t).2 hd)
   simp at this
  rw [(ZgW hput).2 t hd]
  refine inv.ep2 t fun j hj=>?_
  have:=hn j hj
  simp only [Bool.or_eq_false_iff] at this
  exact this.1
 ·simp only [Bool.or_eq_false_iff,beq_eq_false_iff_ne] at hL
  exact hun q k ok hq hok hc hL.1 hL.2 hg
variable (hF:Zcv P F) (hN:ZEi F) (hck: ∀x∈s,ZGH ops P F (ZDR ops s h') e' x=true)
include hF hN hck
theorem ZG4 (inv:Inv P F nt ops s st e e' h' g0 w0 L E g a w) (hg0:HR g0 h w0) (hcl:Cl ops L) {i:Nat} {o:Oper} (ho:ops[i]? =some o) (hLi:L i=false) (hrd: ∀ed∈o.after,Region.binds .any ed=true->L ed.on=true)
   {K:Act->World->Prop} {Q:Exit->Act->World->Prop} (hK: ∀v w' E' g',Inv P F nt ops s st e e' h' g0 w0 (fun k=>L k||k==i) E' g' (a.put o.dst v) w'->Le0 g g'->Grew g w g' w'->K (a.put o.dst v) w'):wpOp P ops Q i K a w:=by
 obtain ⟨p,hpos⟩:=hp.pos (Array.getElem?_eq_some_iff.1 ho).1
 have hpl:=Am.Zaq hpos
 obtain ⟨hsn,o',ho',hst⟩:=ht.at_ p i hpos
 have hoo:o'=o:=by rw [ho] at ho';exact (Option.some.inj ho').symm
 subst hoo
 obtain ⟨b,ov,hgo,hb1,hb2,hput⟩:=ZEg hst
 have hreads:=ZIX hp ht hz hl inv hcl hpos ho hLi hrd
 have hagr:Agr E (st p).1 (ZD2 o'.op):=Agr.of fun t h=>hreads t (by unfold ZEp;exact List.mem_append_right _ h)
 have hgoE:goes ops o' E=some b:=by
   rw [<-hgo]
   unfold goes
   split
   · rfl
   · rename_i j want hgu
     split
     · rename_i oj hoj
       split
       · rename_i t hdt
         have:t∈ZEp ops o':=by
           unfold ZEp gtmp
           rw [hgu]
           simp [hoj,hdt]
         rw [hreads t this]
       · rfl
     · rfl
 have hval0: ∀t:Nat,o'.dst=some t->t<nt/\e'.get t=some (ov.getD (.tup [])):=fun t hd=>by
   have hd':ZEl ops i=some t:=by unfold ZEl;rw [ho];exact hd
   obtain ⟨q1,q2⟩:=(ZgW hput).1 t hd
   refine ⟨q1,?_⟩
   have:=ZHF hp ht hz hl hpos hd' (b:=(sch ops).length) Zo (Yc _)
   rw [hl] at this
   rw [show e'.get t=(st (p+1)).1.get t from this,q2]
 have hputE: ∀ov':Option V,∃E1,putE nt E o'.dst ov'=some E1:=fun ov'=>by
   cases hd:o'.dst with
   | none=>exact ⟨E,rfl⟩
   | some t=>
     have:=(hval0 t hd).1
     exact ⟨E.set t (ov'.getD (.tup [])),by simp only [putE];rw [if_pos this]⟩
 obtain ⟨hc,hhc,hhr⟩:=inv.hr
 have hck':=hck _ (YA hsn)
 unfold ZGH at hck'
 simp only [ho,hgo] at hck'
 have calm: ∀{ov':Option V},ZGx P F nt ops o' E hc=(putE nt E o'.dst ov').map (fun e=>(e,hc))->isE ops i=false->(∀t:Nat,o'.dst=some t->e'.get t=some (ov'.getD (.tup [])))->wpOp P ops Q i K a w:=fun {ov'} hsv hnE hval=>by
   obtain ⟨E1,hE1⟩:=hputE ov'
   rw [hE1] at hsv
   refine ZyK hF hhr inv.env inv.sz ho hsv fun v w' g' r1 r2 r3 r4=>hK v w' E1 g' ?_ r3.toLe0 r4
   refine ZE3 hp ht hz hl inv hpos ho hE1 hval ⟨hc,by rw [ZE9 hp ht hz hl hnE];exact hhc,r2⟩ r1 (inv.le.trans r3) (inv.gr.trans r4) fun q k ok hq hok hcl2 hLk hne hgk hex=>?_
   rcases r3.new _ hex with h1|h1
   · exact inv.un q k ok hq hok hcl2 hLk hgk h1
   · have:=r2.nx _ hex
     rw [hhr.top] at h1
     omega
 cases b with
 | false=>
   obtain ⟨rfl,hsame⟩:=hb2 rfl
   have hsv: ∀hx:H,ZGx P F nt ops o' E hx=(putE nt E o'.dst none).map fun e=>(e,hx):=fun hx=>by unfold ZGx;rw [hgoE]
   by_cases hE:isE ops i=true
   · obtain ⟨c,c1,c2,q,q1,q2,q3,q4⟩:=ZID hp ht hz hl hpos hE
     obtain ⟨k1,k2⟩:=ZGU hp ht hz hl hcl ho c1 hLi hrd
     obtain ⟨E1,hE1⟩:=hputE none
     have hhe:hc=(st p).2:=by rw [k1,c2] at hhc;exact (Option.some.inj hhc).symm
     subst hhe
     have h0:=hsv (st p).2
     rw [hE1] at h0
     refine ZyK hF hhr inv.env inv.sz ho h0 fun v w' g' r1 r2 r3 r4=>hK v w' E1 (g'.up (st q).2.next) ?_ (r3.toLe0.trans (ZET _ _)) (r4.up _)
     have r2':HR g' (st (p+1)).2 w':=by rw [hsame];exact r2
     have hgh:=ZIB ht r2' q1 q2 q4
     have hm:(st p).2.next<=(st q).2.next:=ht.mono hN Zo q2
     refine ZE3 hp ht hz hl inv hpos ho hE1 (fun t hd=>(hval0 t hd).2) ⟨_,by rw [k2];exact q3,hgh⟩ (r1.mono (ZET _ _)) ⟨(inv.le.trans r3).toLe0.trans (ZET _ _),?_,(inv.le.trans r3).new⟩ ((inv.gr.trans r4).up _) fun q' k ok hq hok hcl2 hLk hne hgk hex=>?_
     · show g0.top<=(st q).2.next
       have:=inv.le.top
       rw [hhr.top] at this
       omega
     · rcases r3.new _ hex with h1|h1
       · exact inv.un q' k ok hq hok hcl2 hLk hgk h1
       · have:=r2.nx _ hex
         rw [hhr.top] at h1
         omega
   · have hE:isE ops i=false:=by simpa using hE
     exact calm (ov':=none) (hsv hc) hE fun t hd=>(hval0 t hd).2
 | true=>
   have hop:=hb1 rfl
   have hopE: ∀hx:H,opV P F E hx o'.op=opV P F (st p).1 hx o'.op:=fun hx=>ZIA hagr
   have hnE:ZEU o'.op≠3->isE ops i=false:=fun hne=>by
     rw [Bool.eq_false_iff]
     exact fun hh=>hne ((ZJo ho).1 hh)
   rcases ZGZ o'.op with hcl3|hcl3|hcl3|hcl3
   · refine calm (ov':=ov) ?_ (hnE Zo) fun t hd=>(hval0 t hd).2
     unfold ZGx
     rw [hgoE,hopE,(ZHR hcl3 hop).2 hc]
   · obtain ⟨l1,l2⟩:=ZGV hp ht hz hl hcl ho hLi hrd
     simp only [hcl3,beq_self_eq_true,if_true] at hck'
     have:=List.all_eq_true.1 hck' (cE ops L) (by rw [List.mem_range'_1];omega)
     rw [hhc] at this
     simp only at this
     split at this
     · rename_i ov2 h2 hop2
       have hh2:=ZHQ hcl3 hop2
       subst hh2
       refine calm (ov':=ov2) ?_ (hnE Zo) fun t hd=>?_
       · unfold ZGx
         rw [hgoE,hopE,hop2]
       · rw [hd] at this
         exact ZJQ this
     · cases this
   · obtain ⟨l1,l2⟩:=ZGV hp ht hz hl hcl ho hLi hrd
     have h21:(2==1)=false:=rfl
     simp only [hcl3,h21,Yw,if_false,beq_self_eq_true,if_true] at hck'
     split at hck'
     · rename_i cN vN tyN hmk
       have:=List.all_eq_true.1 hck' (cE ops L) (by rw [List.mem_range'_1];omega)
       rw [hhc] at this
       simp only [Yb,Nat.blt_eq] at this
       obtain ⟨⟨hlt,hty⟩,hob⟩:=this
       have hob:=ZKe hob
       have hty:=ZJY hty
       have hun:=inv.un p i o' hpos ho hcl3 hLi hgo
       have hmkE:mkV P E o'.op=some (cN,vN,tyN):=by rw [ZEv hagr];exact hmk
       obtain ⟨r,ob,sz,m1,m2,m3,m4⟩:=ZJg hhr inv.env hmkE
       have hov:ov=some (vN (st p).2.next):=by
         rw [ZJG hcl3,hmk] at hop
         simp only [mkR,YM,Ye,YL] at hop
         exact hop.1.symm
       obtain ⟨E1,hE1⟩:=hputE ov
       unfold wpOp
       simp only [ho]
       rw [ZEM inv.env hgoE,if_pos rfl]
       refine .inl ?_
       unfold Oper.wp
       rw [m1]
       have hmap:=hhr.map hun hlt hob ob sz (m2 _ _ hun) (m4.1 _) (fun t n h0=>m4.2 t n (hty.symm.trans h0))
       have hle0:=ZDZ g hun w.heap.size sz
       refine hK r _ E1 (g.grow (st p).2.next w.heap.size sz) ?_ hle0 (ZE0 hun ob sz)
       have hm:(st 0).2.next<=(st p).2.next:=ht.mono hN (Yd _) Zo
       rw [hz] at hm
       refine ZE3 hp ht hz hl inv hpos ho hE1 (fun t hd=>(hval0 t hd).2) ⟨hc,by rw [ZE9 hp ht hz hl (hnE Zo)];exact hhc,hmap⟩ ((inv.env.mono hle0).put inv.sz hE1 (by rw [hov];exact m3 _))
         ⟨inv.le.toLe0.trans hle0,?_,fun b' hb'=>?_⟩ (inv.gr.trans ?_) fun q' k ok hq hok hcl2 hLk hne hgk hex=>?_
       · exact Yy inv.le.top (Nat.le_max_left _ _)
       · rcases hb' with hb'|hb'
         · exact inv.le.new b' hb'
         · right
           rw [hb',hg0.top]
           exact hm
       · exact ZE0 hun ob sz
       · rcases hex with hex|hex
         · exact inv.un q' k ok hq hok hcl2 hLk hgk hex
         ·
           obtain ⟨_,ok',hok',hst'⟩:=ht.at_ q' k hq
           have:ok'=ok:=by rw [hok] at hok';exact (Option.some.inj hok').symm
           subst this
           obtain ⟨b2,ov2,hgo2,hc1,_,_⟩:=ZEg hst'
           rw [hgk] at hgo2
           cases hgo2
           have hn2:=hc1 rfl
           rw [ZJG hcl2] at hn2
           simp only [mkR,YF,YL] at hn2
           obtain ⟨m,_,_,hm2⟩:=hn2
           have hn1:=hop
           rw [ZJG hcl3] at hn1
           simp only [mkR,YF,YL] at hn1
           obtain ⟨m',_,_,hm1⟩:=hn1
           have hq2:=Am.Zaq hq
           have e1:(st (p+1)).2.next=(st p).2.next+1:=by rw [<-hm1];rfl
           have e2:(st (q'+1)).2.next=(st q').2.next+1:=by rw [<-hm2];rfl
           rcases Nat.lt_trichotomy q' p with h1|h1|h1
           · have:=ht.mono hN (a:=q'+1) (b:=p) h1 Zo
             omega
           · subst h1
             rw [hpos,Ye] at hq
             exact hne hq.symm
           · have:=ht.mono hN (a:=p+1) (b:=q') h1 Zo
             omega
     · cases hck'
   · have hE:=(ZJo ho).2 hcl3
     obtain ⟨c,c1,c2,q,q1,q2,q3,q4⟩:=ZID hp ht hz hl hpos hE
     obtain ⟨k1,k2⟩:=ZGU hp ht hz hl hcl ho c1 hLi hrd
     obtain ⟨E1,hE1⟩:=hputE ov
     have hhe:hc=(st p).2:=by rw [k1,c2] at hhc;exact (Option.some.inj hhc).symm
     subst hhe
     have h0:ZGx P F nt ops o' E (st p).2=some (E1,(st (p+1)).2):=by
       unfold ZGx
       rw [hgoE,hopE,hop]
       simp only [hE1,YM]
     refine ZyK hF hhr inv.env inv.sz ho h0 fun v w' g' r1 r2 r3 r4=>hK v w' E1 (g'.up (st q).2.next) ?_ (r3.toLe0.trans (ZET _ _)) (r4.up _)
     have hgh:=ZIB ht r2 q1 q2 q4
     have hm:(st p).2.next<=(st q).2.next:=ht.mono hN Zo q2
     refine ZE3 hp ht hz hl inv hpos ho hE1 (fun t hd=>(hval0 t hd).2) ⟨_,by rw [k2];exact q3,hgh⟩ (r1.mono (ZET _ _)) ⟨(inv.le.trans r3).toLe0.trans (ZET _ _),?_,(inv.le.trans r3).new⟩ ((inv.gr.trans r4).up _) fun q' k ok hq hok hcl2 hLk hne hgk hex=>?_
     · show g0.top<=(st q).2.next
       have:=inv.le.top
       rw [hhr.top] at this
       omega
     · rcases r3.new _ hex with h1|h1
       · exact inv.un q' k ok hq hok hcl2 hLk hgk h1
       · have h2:=r2.nx _ hex
         rw [hhr.top] at h1
         obtain ⟨_,ok',hok',hst'⟩:=ht.at_ q' k hq
         have:ok'=ok:=by rw [hok] at hok';exact (Option.some.inj hok').symm
         subst this
         obtain ⟨b2,ov2,hgo2,hc1,_,_⟩:=ZEg hst'
         rw [hgk] at hgo2
         cases hgo2
         have hn2:=hc1 rfl
         rw [ZJG hcl2] at hn2
         simp only [mkR,YF,YL] at hn2
         obtain ⟨m,_,_,hm2⟩:=hn2
         have e2:(st (q'+1)).2.next=(st q').2.next+1:=by rw [<-hm2];rfl
         have hq2:=Am.Zaq hq
         rcases Nat.lt_trichotomy q' p with h3|h3|h3
         · have:=ht.mono hN (a:=q'+1) (b:=p) h3 Zo
           omega
         · subst h3
           rw [hpos,Ye] at hq
           exact hne hq.symm
         · have:=ht.mono hN (a:=p+1) (b:=q') h3 Zo
           omega
end
end Go.Cm
end
section
namespace Go.Cm
attribute [local instance] wi0
variable {P:Program} {F:ZaQ} {ops:Array Oper} {nt:Nat} {e e':Env} {h h':H} {g g0:G} {a:Act} {w w0:World}
section
variable {s:List Snap} {st:Nat->Env×H} (hp:Pl ops) (ht:Tr P F nt ops (sch ops) s st) (hz:st 0=(e,h)) (hl:st (sch ops).length=(e',h'))
 (hF:Zcv P F) (hN:ZEi F) (hck: ∀x∈s,ZGH ops P F (ZDR ops s h') e' x=true)
include hp ht hz hl
theorem ZHS {listed:Array Bool} (hsz:listed.size=ops.size) (hr:Region.ready .any ops listed=[]): ∀i,i<ops.size->listed.getD i false=true:=fun i hi=>by
 cases hh:listed.getD i false with
 | true=>rfl
 | false=>
   exfalso
   obtain ⟨j,j1,j2,j3⟩:=Am.Zmv (fun i=>listed.getD i false) ops.size ⟨i,hi,hh⟩
   have ho:ops[j]? =some (ops[j]'j1):=Array.getElem?_eq_getElem _
   have hok:=hp.an j j1
   unfold ZJK at hok
   rw [ho] at hok
   simp only [Yb] at hok
   have:j∈Region.ready .any ops listed:=mem_ready.2 ⟨?_,_,ho,fun ed he hb=>?_⟩
   · rw [hr] at this;cases this
   · have hjs:j<listed.size:=by omega
     simp only [Array.getD,hjs,dif_pos] at j2⊢
     exact j2
   · have:=List.all_eq_true.1 hok.1 ed (by simpa using he)
     simp only [hb,Bool.not_true,Bool.false_or,Nat.blt_eq] at this
     exact j3 _ this
theorem ZIS {L:Nat->Bool} {E:Env} (inv:Inv P F nt ops s st e e' h' g0 w0 L E g a w) (hall: ∀i,i<ops.size->L i=true):EnvR g e' a/\HR g h' w:=by
 have hE: ∀t:Nat,E.get t=e'.get t:=fun t=>by
  by_cases hw: ∃j,ZEl ops j=some t
  ·obtain ⟨j,hj⟩:=hw
   exact inv.ep1 t j hj (hall j (ZFE hj))
  ·have hn: ∀j,ZEl ops j≠some t:=fun j hj=>hw ⟨j,hj⟩
   rw [inv.ep2 t fun j hj=>absurd hj (hn j)]
   have:=ZIY hp ht hz hl (p:=(sch ops).length) hn (Yc _)
   rw [hl] at this
   exact this.symm
 obtain ⟨hc,h1,h2⟩:=inv.hr
 have hcnt:cE ops L=cntE ops (sch ops) (sch ops).length:=by
  unfold cE cntE
  rw [List.take_length,hp.fi]
  congr 1
  refine List.filter_eq_self.2 fun k hk=>hall k ?_
  have:=(List.mem_filter.1 hk).1
  simpa using this
 have hlast:=ht.heaps (h':=h') (sch ops).length (Yc _) 0
 have hdrop:s.drop (sch ops).length=[]:=by rw [List.drop_of_length_le];rw [ht.len];exact Yc _
 rw [Nat.add_zero,<-hcnt,h1,hdrop] at hlast
 simp only [ZDR,Yi,Ye] at hlast
 subst hlast
 exact ⟨⟨inv.env.1,fun t v hv=>inv.env.2 t v (by rw [hE t];exact hv)⟩,h2⟩
theorem ZIa {L:Nat->Bool} {E:Env} (inv:Inv P F nt ops s st e e' h' g0 w0 L E g a w) (hall: ∀i,i<ops.size->L i=true) {Q:Act->World->Prop} (hD:Done nt e' h' g0 w0 Q):Q a w:=by
 obtain ⟨h1,h2⟩:=ZIS hp ht hz hl inv hall
 exact hD a w g h1 inv.sz h2 inv.le inv.gr
include hF hN hck
theorem ZI8 (hg0:HR g0 h w0) {Q:Exit->Act->World->Prop} (hD:Done nt e' h' g0 w0 (Q .normal)): ∀(fuel:Nat) (listed:Array Bool) {E:Env} {g:G} {a:Act} {w:World},
   listed.size=ops.size->(∀(k:Nat) (o:Oper),ops[k]? =some o->listed.getD k false=true-> ∀ed∈o.after,Region.binds .any ed=true->listed.getD ed.on false=true)->listed.toList.count false<=fuel->
   Inv P F nt ops s st e e' h' g0 w0 (fun i=>listed.getD i false) E g a w->wpAny P .any ops Q fuel listed a w:=by
 intro fuel
 induction fuel with
 | zero=>
   intro listed E g a w hsz hcl hc inv
   have hall: ∀i,i<ops.size->listed.getD i false=true:=fun i hi=>by
     have his:i<listed.size:=by omega
     simp only [Array.getD,his,dif_pos]
     cases hb:listed[i] with
     | true=>simp [hb]
     | false=>
       exfalso
       have:0<listed.toList.count false:=List.count_pos_iff.2 (by rw [<-hb];simp)
       omega
   refine ⟨?_,ZIa hp ht hz hl inv hall hD⟩
   refine List.eq_nil_iff_forall_not_mem.2 fun j hj=>?_
   obtain ⟨h0,o,ho,_⟩:=mem_ready.1 hj
   have hjl:=(Array.getElem?_eq_some_iff.1 ho).1
   have:=hall j hjl
   have hjs:j<listed.size:=by omega
   simp only [Array.getD,hjs,dif_pos] at h0 this
   rw [h0] at this;cases this
 | succ fuel ih=>
   intro listed E g a w hsz hcl hc inv
   refine ⟨fun hr=>ZIa hp ht hz hl inv (ZHS hp ht hz hl hsz hr) hD,fun j hj=>?_⟩
   obtain ⟨hj0,o,ho,hdep⟩:=mem_ready.1 hj
   have hjl:=(Array.getElem?_eq_some_iff.1 ho).1
   have hjs:j<listed.size:=by omega
   have hj0':listed.getD j false=false:=by
     simp only [Array.getD,hjs,dif_pos] at hj0⊢
     exact hj0
   refine ZG4 hp ht hz hl hF hN hck inv hg0 (fun k o hk hL=>hcl k o hk hL) ho hj0' hdep fun v w' E' g' inv' _ _=>?_
   have hL:(fun k=>listed.getD k false||k==j)=fun k=>(listed.setIfInBounds j true).getD k false:=by
     funext k
     by_cases hkj:j=k
     · subst hkj
       simp [Array.getD,hjs]
     · rw [getD_set_ne false hkj]
       have:(k==j)=false:=by simp;omega
       rw [this,Bool.or_false]
   rw [hL] at inv'
   refine ih _ (by simpa using hsz) (fun k o2 ho2 hk ed he hb=>?_) ?_ inv'
   · refine getD_set_true ?_
     by_cases hkj:j=k
     · subst hkj
       rw [ho] at ho2;cases ho2
       exact hdep ed he hb
     · rw [getD_set_ne false hkj] at hk
       exact hcl k o2 ho2 hk ed he hb
   · have hlj:listed.toList[j]? =some false:=by
       simp only [Array.getD,hjs,dif_pos] at hj0
       have:listed[j]=false:=hj0
       rw [<-this];simp
     rw [Array.toList_setIfInBounds]
     have:=Am.Zt0 hlj
     omega
end
theorem ZFN {x:Env×H} (hx:runD ops P F nt e h=some x):Pl ops/\P.follows .mixedOrders=true/\ ∃s st,st 0=(e,h)/\st (sch ops).length=x/\Tr P F nt ops (sch ops) s st/\ ∀y∈s,ZGH ops P F (ZDR ops s x.2) x.1 y=true:=by
 unfold runD at hx
 split at hx
 ·rename_i hc
  rw [Yb] at hc
  split at hx
  ·rename_i s e' h' hr
   split at hx
   ·rename_i hall
    cases hx
    obtain ⟨st,t1,t2,t3⟩:=ZIJ _ hr
    exact ⟨ZHj hc.1,hc.2,s,st,t1,t2,t3,fun y hy=>List.all_eq_true.1 hall y hy⟩
   ·cases hx
  ·cases hx
 ·cases hx
theorem ZG3 (hN:ZEi F) {x:Env×H} (hx:runD ops P F nt e h=some x):h.next<=x.2.next:=by
 obtain ⟨_,_,s,st,t1,t2,t3,_⟩:=ZFN hx
 have:=t3.mono hN (Yd _) (Yc _)
 rw [t1,t2] at this
 exact this
theorem ZHn (hF:Zcv P F) (hN:ZEi F) (hh:HR g h w) (he:EnvR g e a) (hs:nt<=a.tmps.size) (hx:runD ops P F nt e h=some (e',h')) {id:Nat} {Q:Exit->Act->World->Prop} (hD:Done nt e' h' g w (Q .normal)):
  (Code.region id ops true).wp P Q a w:=by
 obtain ⟨hp,hfol,s,st,hz,hl,ht,hck⟩:=ZFN hx
 refine wp_region_any hfol ?_
 have hh':HR g h {w with drawn:=w.drawn+1}:=hh.sameHeap rfl
 have hD':Done nt e' h' g {w with drawn:=w.drawn+1} (Q .normal):=hD.next (Le.refl g) ⟨rfl,rfl,rfl,Yc _,fun _ _ _=>rfl,fun b hb=> .inl ⟨b,hb,rfl⟩⟩
 have hgetD: ∀i,(Array.replicate ops.size false).getD i false=false:=fun i=>by
  simp only [Array.getD]
  split
  ·simp
  ·rfl
 obtain ⟨q,q1,q2,q3,q4,_⟩:=ht.heap (h':=h') (by rw [hl]) (sch ops).length 0 Zo
 refine ZI8 hp ht hz hl hF hN hck hh' hD' ops.size (Array.replicate ops.size false) (E:=e) (g:=g.up (st q).2.next) Zs (fun k o _ hk=>by rw [hgetD] at hk;cases hk) (by simp [List.count_replicate]) ?_
 have hcnt:cE ops (fun i=>(Array.replicate ops.size false).getD i false)=0:=by
  unfold cE
  rw [List.length_eq_zero_iff,List.filter_eq_nil_iff]
  intro k _
  rw [hgetD]
  simp
 have h0:HR g (st 0).2 {w with drawn:=w.drawn+1}:=by rw [hz];exact hh'
 have hgh:=ZIB ht h0 (Yd q) q2 fun r i _ h2 h3=>q4 r i (Yd _) h2 h3
 have hle: ∀b,b<=(sch ops).length->h.next<=(st b).2.next:=fun b hb=>by
  have:=ht.mono hN (Yd _) hb
  rw [hz] at this
  exact this
 refine ⟨⟨_,by rw [hcnt];rw [List.drop_zero] at q3;exact q3,hgh⟩,he.mono (ZET _ _),fun t j _ hL=>?_,fun t _=>rfl,hs,⟨ZET _ _,?_,fun b hb=> .inl hb⟩,(Grew.refl _ _).up _,fun p i o hpos _ _ _ _ hex=>?_⟩
 ·rw [hgetD] at hL;cases hL
 ·show g.top<=(st q).2.next
  rw [hh.top]
  exact hle q q2
 ·have h1:=hh.nx _ hex
  have:=hle p (by have:=Am.Zaq hpos;omega)
  omega
end Go.Cm
end
section
namespace Go.Cm
attribute [local instance] wi0
variable {P:Program} {F:ZaQ} {ops:Array Oper} {nt:Nat} {e e':Env} {h h':H} {g g0:G} {a:Act} {w w' w0:World}
theorem HR.frame (hh:HR g h w) (hs:w.heap.size<=w'.heap.size) (hk: ∀b,g.ex b->w'.heap[(g.β b).1]? =w.heap[(g.β b).1]?):HR g h w':=
 ⟨Yy hh.bs hs,hh.nx,hh.top,hh.mins,hh.grp,fun b hb=>⟨(hh.blk b hb).1,Yq (hh.blk b hb).2 hs⟩,fun b o hx hb=>(hh.ob b o hx hb).mono (Le.refl g).toLe0 hx (hk b hx),hh.tl,
  fun b t n hx hb=>by rw [hk b hx];exact hh.ty b t n hx hb,hh.i1,hh.i2,hh.i4,hh.dm⟩
theorem HR.adopt (hh:HR g h w) {id:Nat} (hn: ¬g.ex id) (hid:id<h.next) {o:O} (ho:h.obs.get id=some o) (hc:ZFr o=false) {blk s:Nat} (hb0:g.base<=blk) (hb1:blk<w.heap.size) (hb2: ∀b,g.ex b->(g.β b).1≠blk)
  (hob:ObOK (g.grow id blk s) h.low w id o) (hty:h.tys.get id=none):HR (g.grow id blk s) h w:=by
 have hβ: ∀b,g.ex b->(g.grow id blk s).β b=g.β b:=(ZDZ g hn _ s).β
 have hn1:((g.grow id blk s).β id).1=blk:=by rw [ZDU]
 have hnc: ∀{cs gr ver kid},h.obs.get id≠some (.cells cs gr ver kid):=fun {cs gr ver kid} hh=>by rw [ho] at hh;cases hh;cases hc
 have ha: ∀{k gr ver kid cs},ZEo (g.grow id blk s) h k gr ver kid cs->ZEo g h k gr ver kid cs:=fun {k gr ver kid cs} ⟨h1,h2,h3⟩=>by
  rcases h3 with h3|h3
  ·exact ⟨h1,h2,h3⟩
  ·exact absurd (by rw [<-h3];exact h1) hnc
 refine ⟨hh.bs,fun b hb=>?_,by have:=hh.top;simp only [G.grow];omega,fun k m hk=> .inl (hh.mins k m hk),fun b cs gr ver kid hx hb=>?_,fun b hb=>?_,fun b o' hx hb=>?_,hh.tl,fun b t n hx hb=>?_,fun b b' gr ver kid cs gr' ver' kid' cs' h1 h2 hnb hbb=>?_,fun b b' gr ver cs ver' kid' cs' h1 h2=>?_,fun b b' gr ver cs ver' cs' x1 x2 h1 h2=>?_,fun b o' b' x1 hb hc x2 hnb=>?_⟩
 ·rcases hb with hb|rfl
  ·exact hh.nx b hb
  ·exact hid
 ·rcases hx with hx|hx
  ·exact .inl (hh.grp b cs gr ver kid hx hb)
  ·rw [hx] at hb;exact absurd hb hnc
 ·rcases hb with hb|hb
  ·rw [hβ b hb];exact hh.blk b hb
  ·rw [hb,hn1];exact ⟨hb0,hb1⟩
 ·rcases hx with hx|hx
  ·exact (hh.ob b o' hx hb).mono (ZDZ g hn _ s) hx rfl
  ·rw [hx,ho] at hb
   cases hb
   rw [hx];exact hob
 ·rcases hx with hx|hx
  ·rw [hβ b hx];exact hh.ty b t n hx hb
  ·rw [hx,hty] at hb;cases hb
 ·have a1:=ha h1
  have a2:=ha h2
  rw [hβ b a1.2.2,hβ b' a2.2.2] at hbb
  exact hh.i1 b b' gr ver kid cs gr' ver' kid' cs' a1 a2 hnb hbb
 ·have a1:=ha h1
  have a2:=ha h2
  rw [hβ b a1.2.2,hβ b' a2.2.2]
  exact hh.i2 b b' gr ver cs ver' kid' cs' a1 a2
 ·rcases x1 with x1|x1
  ·rcases x2 with x2|x2
   ·exact hh.i4 b b' gr ver cs ver' cs' x1 x2 h1 h2
   ·rw [x2] at h2;exact absurd h2 hnc
  ·rw [x1] at h1;exact absurd h1 hnc
 ·rcases x1 with x1|x1
  ·rw [hβ b x1]
   rcases x2 with x2|x2
   ·rw [hβ b' x2];exact hh.dm b o' b' x1 hb hc x2 hnb
   ·rw [x2,hn1];exact hb2 b x1
  ·rcases x2 with x2|x2
   ·rw [x1,hn1,hβ b' x2];exact (hb2 b' x2).symm
   ·exact absurd (x2.trans x1.symm) hnb
theorem Grew.outside (hg:Grew g0 w0 g w) (h1:w'.os=w.os) (h2:w'.tape=w.tape) (h3:w'.output=w.output) (hs:w.heap.size<=w'.heap.size) (hk: ∀k,k<w0.heap.size->w'.heap[k]? =w.heap[k]?):Grew g0 w0 g w':=
 ⟨h1.trans hg.os,h2.trans hg.tape,h3.trans hg.output,Yy hg.size hs,fun k hk1 hk2=>(hk k hk1).trans (hg.old k hk1 hk2),hg.img⟩
section
variable {k0 m t:Nat}
theorem ZDS (i:Nat):(ZDH k0 m t ops)[i]? =(ops[i]?).map fun o=>if ZFR k0 m t i o then dull o else o:=by simp [ZDH,Array.getElem?_mapIdx]
theorem ZHe:(ZDH k0 m t ops).size=ops.size:=by simp [ZDH]
structure LitPl (ops:Array Oper) (k0 m t:Nat):Prop where
 lt:k0<ops.size
 lit: ∀o,ops[k0]? =some o->ZJJ o=some (m,t)
 dst: ∀i o,ops[i]? =some o->i≠k0->o.dst≠some m
 ins: ∀i o,ops[i]? =some o->i≠k0->ZG2 m t o=true->ZKi k0 (ZDH k0 m t ops) i o=true
 oth: ∀i o,ops[i]? =some o->i≠k0->ZG2 m t o=false->m∉ZEp ops o
theorem ZHw (hc:ZKM k0 m t ops=true):LitPl ops k0 m t:=by
 unfold ZKM at hc
 simp only [Yb,Nat.blt_eq] at hc
 obtain ⟨h1,h2⟩:=hc
 have key: ∀i o,ops[i]? =some o->(if Nat.beq i k0 then ZJJ o==some (m,t) else o.dst !=some m && (if ZG2 m t o then ZKi k0 (ZDH k0 m t ops) i o else !(ZEp ops o).elem m))=true:=fun i o ho=>by
  have:=List.all_eq_true.1 h1 i (List.mem_range.2 (Array.getElem?_eq_some_iff.1 ho).1)
  unfold ZIE at this
  rw [ho] at this
  exact this
 have hne: ∀i,i≠k0->Nat.beq i k0=false:=fun i hi=>by
  rw [Bool.eq_false_iff];exact fun hb=>hi (Nat.eq_of_beq_eq_true hb)
 refine ⟨h2,fun o ho=>?_,fun i o ho hi=>?_,fun i o ho hi hs=>?_,fun i o ho hi hs=>?_⟩
 ·have:=key k0 o ho
  rw [if_pos (Nat.beq_refl k0)] at this
  exact beq_iff_eq.1 this
 ·have:=key i o ho
  rw [hne i hi] at this
  simp only [Yw,if_false,Yb,bne_iff_ne] at this
  exact this.1
 ·have:=key i o ho
  rw [hne i hi,hs] at this
  simp only [Yw,if_false,if_true,Yb] at this
  exact this.2
 ·have:=key i o ho
  rw [hne i hi,hs] at this
  simp only [Yw,if_false,Yb,Bool.not_eq_true'] at this
  intro hm
  rw [List.elem_eq_true_of_mem hm] at this
  exact absurd this.2 Zs
theorem ZFh {o:Oper} (hi:ZG2 m t o=true): ∃k x,o.op= .insert t (.tmp m) k x/\o.guard=none/\o.dst=none:=by
 unfold ZG2 at hi
 split at hi
 ·rename_i t' m' k x ho
  simp only [Yb,Option.isNone_iff_eq_none] at hi
  obtain ⟨⟨⟨h1,h2⟩,h3⟩,h4⟩:=hi
  rw [Nat.eq_of_beq_eq_true h1,Nat.eq_of_beq_eq_true h2] at ho
  exact ⟨k,x,ho,h3,h4⟩
 ·cases hi
theorem ZGc {o:Oper} (hi:ZJJ o=some (m,t)): ∃r,o.op= .makeMap t r/\o.dst=some m/\o.guard=none/\(r=none∨ ∃k n,r=some (.const (.int k n))):=by
 unfold ZJJ at hi
 split at hi
 ·rename_i t' m' h1 h2 h3
  cases hi
  exact ⟨none,h1,h2,h3,.inl rfl⟩
 ·rename_i t' k n m' h1 h2 h3
  cases hi
  exact ⟨_,h1,h2,h3,.inr ⟨k,n,rfl⟩⟩
 ·cases hi
theorem ZEy {e:Env}: ∀{l:List Nat} {ips:List (Nat×V×V)},l.Nodup->ZEx m t ops e l=some ips->
   (∀p∈ips,p.1∈l/\ ∃o,ops[p.1]? =some o/\ZG2 m t o=true/\prOf e o=some p.2)/\(ips.map (·.1)).Nodup/\ ∀i∈l,∀o,ops[i]? =some o->ZG2 m t o=true-> ∃p,(i,p)∈ips
 | [],ips,_,hp=>by
   simp only [ZEx,Ye] at hp
   subst hp
   exact ⟨fun p hp=>(by cases hp),List.nodup_nil,fun i hi=>(by cases hi)⟩
 | i::r,ips,hn,hp=>by
   rw [List.nodup_cons] at hn
   simp only [ZEx] at hp
   split at hp
   · rename_i o ho
     split at hp
     · rename_i his
       split at hp
       · rename_i p ps h1 h2
         cases hp
         obtain ⟨q1,q2,q3⟩:=ZEy hn.2 h2
         refine ⟨fun p' hp'=>?_,?_,fun j hj o' ho' hs=>?_⟩
         · rcases List.mem_cons.1 hp' with rfl|hp'
           · exact ⟨by simp,o,ho,his,h1⟩
           · obtain ⟨z1,z2⟩:=q1 p' hp'
             exact ⟨Yk _ z1,z2⟩
         · rw [Yp,List.nodup_cons]
           refine ⟨fun hm=>?_,q2⟩
           obtain ⟨p',hp',he⟩:=List.mem_map.1 hm
           have:=(q1 p' hp').1
           rw [he] at this
           exact hn.1 this
         · rcases List.mem_cons.1 hj with rfl|hj
           · exact ⟨p,by simp⟩
           · obtain ⟨p',hp'⟩:=q3 j hj o' ho' hs
             exact ⟨p',Yk _ hp'⟩
       · cases hp
     · rename_i his
       obtain ⟨q1,q2,q3⟩:=ZEy hn.2 hp
       refine ⟨fun p' hp'=>?_,q2,fun j hj o' ho' hs=>?_⟩
       · obtain ⟨z1,z2⟩:=q1 p' hp'
         exact ⟨Yk _ z1,z2⟩
       · rcases List.mem_cons.1 hj with rfl|hj
         · rw [ho] at ho';cases ho'
           exact absurd hs his
         · exact q3 j hj o' ho' hs
   · cases hp
theorem ZkZ {kt:Nat}: ∀{ips:List (Nat×V×V)},Zxc P kt ips=true->(∀p∈ips,ckT P DEEP kt p.2.1=true)/\ ∀p∈ips,∀q∈ips,p.1≠q.1->eqT P DEEP kt p.2.1 q.2.1=some false
 | [],_=>⟨fun p hp=>(by cases hp),fun p hp=>(by cases hp)⟩
 | x::r,hp=>by
   simp only [Zxc,Yb] at hp
   obtain ⟨⟨h1,h2⟩,h3⟩:=hp
   obtain ⟨q1,q2⟩:=ZkZ h3
   have hne: ∀{a b},neqT P kt a b=true->eqT P DEEP kt a b=some false:=fun {a b} hb=>by
     unfold neqT at hb
     split at hb
     · assumption
     · cases hb
   refine ⟨fun p hp=>?_,fun p hp q hq hn=>?_⟩
   · rcases List.mem_cons.1 hp with e1|hp'
     · rw [e1];exact h1
     · exact q1 p hp'
   · rcases List.mem_cons.1 hp with e1|hp'
     · rcases List.mem_cons.1 hq with e2|hq'
       · rw [e1,e2] at hn;exact absurd rfl hn
       · have:=List.all_eq_true.1 h2 q hq'
         rw [Yb] at this
         rw [e1]
         exact hne this.1
     · rcases List.mem_cons.1 hq with e2|hq'
       · have:=List.all_eq_true.1 h2 p hp'
         rw [Yb] at this
         rw [e2]
         exact hne this.2
       · exact q2 p hp' q hq' hn
theorem ZF7 {α:Type} {L:Nat->Bool} {j:Nat} {p:α} (hL:L j=false): ∀{l:List (Nat×α)},(l.map (·.1)).Nodup->(j,p)∈l->(l.filter fun q=>L q.1||q.1==j).Perm ((j,p)::l.filter fun q=>L q.1)
 | [],_,hm=>by cases hm
 | q::r,hn,hm=>by
   rw [Yp,List.nodup_cons] at hn
   by_cases hq:q.1=j
   · have hnr: ∀x∈r,x.1≠j:=fun x hx he=>hn.1 (List.mem_map.2 ⟨x,hx,he.trans hq.symm⟩)
     have hqe:q=(j,p):=by
       rcases List.mem_cons.1 hm with h1|h1
       · exact h1.symm
       · exact absurd rfl (hnr _ h1)
     have hf:(r.filter fun q=>L q.1||q.1==j)=r.filter fun q=>L q.1:=List.filter_congr fun x hx=>by
       have:(x.1==j)=false:=by simpa using hnr x hx
       rw [this,Bool.or_false]
     rw [List.filter_cons,if_pos (by simp [hq]),hf,List.filter_cons,if_neg (by rw [hq,hL];simp),hqe]
   · have hm':(j,p)∈r:=by
       rcases List.mem_cons.1 hm with h1|h1
       · exact absurd (by rw [<-h1]) hq
       · exact h1
     have ih:=ZF7 (p:=p) hL hn.2 hm'
     have hqf:(q.1==j)=false:=by simpa using hq
     rw [List.filter_cons,List.filter_cons]
     simp only [hqf,Bool.or_false]
     by_cases hLq:L q.1=true
     · rw [if_pos hLq,if_pos hLq]
       exact (ih.cons q).trans (List.Perm.swap _ _ _)
     · rw [if_neg hLq,if_neg hLq]
       exact ih
end
theorem ZF8 {t:TypeId} {k:V}: ∀{es:List En},(∀en∈es,eqT P DEEP t k en.k=some false)-> ∀i,ZIe P t k es i=some none
 | [],_,_=>rfl
 | e::es,h,i=>by
   simp only [ZIe,h e Zs]
   exact ZF8 (fun en hen=>h en (Yk _ hen)) (i+1)
def Xs (ips:List (Nat×V×V)) (k0 m:Nat) (w0:World) (L:Nat->Bool) (g:G) (a:Act) (w:World):Prop:=
 L k0=true-> ∃blk ms c es,a.tmps.getD m undef= .map (some blk)/\w0.heap.size<=blk/\blk<w.heap.size/\(∀b,g.ex b->(g.β b).1≠blk)/\w.heap[blk]? =some (.map ms c)/\
  (es.map fun (e:En)=>(e.k,e.x)).Perm ((ips.filter fun p=>L p.1).map (·.2))/\RelEs g es ms
theorem ZHm {k0 m t:Nat} (hq:LitPl ops k0 m t) {j:Nat} {o:Oper} (ho:ops[j]? =some o) (hlit:ZFR k0 m t j o=false) {K:Act->World->Prop} {Q:Exit->Act->World->Prop} (hw:wpOp P (ZDH k0 m t ops) Q j K a w):wpOp P ops Q j K a w:=by
 have ho':(ZDH k0 m t ops)[j]? =some o:=by rw [ZDS,ho];simp [hlit]
 have hj:j≠k0/\ZG2 m t o=false:=by
   unfold ZFR at hlit
   rw [Bool.or_eq_false_iff] at hlit
   exact ⟨fun he=>by rw [he,Nat.beq_refl] at hlit;exact absurd hlit.1 Zs,hlit.2⟩
 unfold wpOp at hw⊢
 rw [ho'] at hw
 rw [ho]
 simp only at hw⊢
 have hwa:Region.wanted o (yielded (ZDH k0 m t ops) a.tmps)=Region.wanted o (yielded ops a.tmps):=by
   unfold Region.wanted
   split
   · rfl
   · rename_i x want hg
     congr 1
     unfold yielded
     rw [ZDS]
     cases hox:ops[x]? with
     | none=>rfl
     | some ox=>
       simp only [YM,Option.bind_some]
       by_cases hx:ZFR k0 m t x ox=true
       · rw [if_pos hx]
         have hd:ox.dst=none:=by
           unfold ZFR at hx
           rw [Bool.or_eq_true] at hx
           rcases hx with hx|hx
           · have hx:=Nat.eq_of_beq_eq_true hx
             subst hx
             obtain ⟨_,_,hd,_⟩:=ZGc (hq.lit ox hox)
             refine absurd ?_ (hq.oth j o ho hj.1 hj.2)
             unfold ZEp gtmp
             rw [hg]
             simp [hox,hd]
           · obtain ⟨_,_,_,_,hd⟩:=ZFh hx
             exact hd
         rw [hd];rfl
       · rw [if_neg hx]
 rwa [hwa] at hw
section
variable {k0 m t kt el:Nat} {ips:List (Nat×V×V)}
variable {s:List Snap} {st:Nat->Env×H} (hp:Pl (ZDH k0 m t ops)) (ht:Tr P F nt (ZDH k0 m t ops) (sch (ZDH k0 m t ops)) s st) (hz:st 0=(e,h)) (hl:st (sch (ZDH k0 m t ops)).length=(e',h'))
 (hF:Zcv P F) (hN:ZEi F) (hck: ∀x∈s,ZGH (ZDH k0 m t ops) P F (ZDR (ZDH k0 m t ops) s h') e' x=true)
 (hq:LitPl ops k0 m t) (hem:e.get m=none) (hmt:m<nt) (hkt:P.underlying t=some (.map kt el)) (hips:ZEx m t ops e' (List.range ops.size)=some ips) (hap:Zxc P kt ips=true)
variable {L:Nat->Bool} {E:Env}
theorem no_m (hq:LitPl ops k0 m t) (j:Nat):ZEl (ZDH k0 m t ops) j≠some m:=by
 unfold ZEl
 rw [ZDS]
 cases ho:ops[j]? with
 | none=>simp
 | some o=>
   simp only [YM,Option.bind_some]
   by_cases hx:ZFR k0 m t j o=true
   · rw [if_pos hx];simp [dull]
   · rw [if_neg hx]
     refine hq.dst j o ho fun he=>hx ?_
     unfold ZFR
     rw [he,Nat.beq_refl,Bool.true_or]
theorem Xs.keep (hX:Xs ips k0 m w0 L g a w) {i:Nat} (hi:i≠k0) (hni: ∀p∈ips,p.1≠i) {g':G} {w':World} (hl:Le0 g g') (hg:Grew g w g' w') {d:Option Tmp} (hd:d≠some m) (v:Value):Xs ips k0 m w0 (fun k=>L k||k==i) g' (a.put d v) w':=by
 intro hk
 have hk0:(k0==i)=false:=by simpa using fun he:k0=i=>hi he.symm
 simp only [hk0,Bool.or_false] at hk
 obtain ⟨blk,ms,c,es,x1,x2,x3,x4,x5,x6,x7⟩:=hX hk
 refine ⟨blk,ms,c,es,?_,x2,Yq x3 hg.size,fun b hb he=>?_,(hg.old blk x3 x4).trans x5,?_,x7.mono hl⟩
 ·cases d with
  | none=>exact x1
  | some d=>rw [Am.Zbb (fun he=>hd (by rw [he]))];exact x1
 ·rcases hg.img b hb with ⟨b0,hb0,h1⟩|h1
  ·exact x4 b0 hb0 (h1.trans he)
  ·omega
 ·have:(ips.filter fun p=>L p.1||p.1==i)=ips.filter fun p=>L p.1:=List.filter_congr fun p hp=>by
   have:(p.1==i)=false:=by simpa using hni p hp
   rw [this,Bool.or_false]
  rw [this];exact x6
theorem Inv.at_m {ops':Array Oper} {L:Nat->Bool} {E:Env} {s:List Snap} {st:Nat->Env×H} (inv:Inv P F nt ops' s st e e' h' g0 w0 L E g a w) (hE:E.get m=none) (v:Value):Inv P F nt ops' s st e e' h' g0 w0 L E g (a.put (some m) v) w:=by
 refine ⟨inv.hr,⟨by rw [Am.Zb6];exact inv.env.1,fun u x hu=>?_⟩,inv.ep1,inv.ep2,by rw [Am.Zd6];exact inv.sz,inv.le,inv.gr,inv.un⟩
 have hum:u≠m:=fun he=>by rw [he,hE] at hu;cases hu
 rw [Am.Zbb hum]
 exact inv.env.2 u x hu
include hp ht hz hl hF hN hck hq hem hmt hkt hips hap
theorem ZJf (inv:Inv P F nt (ZDH k0 m t ops) s st e e' h' g0 w0 L E g a w) (hX:Xs ips k0 m w0 L g a w) (hg0:HR g0 h w0) (hcl:Cl (ZDH k0 m t ops) L) {i:Nat} {o:Oper} (ho:ops[i]? =some o) (hLi:L i=false) (hrd: ∀ed∈o.after,Region.binds .any ed=true->L ed.on=true)
  {K:Act->World->Prop} {Q:Exit->Act->World->Prop} (hK: ∀a' w' E' g',Inv P F nt (ZDH k0 m t ops) s st e e' h' g0 w0 (fun k=>L k||k==i) E' g' a' w'->Xs ips k0 m w0 (fun k=>L k||k==i) g' a' w'->K a' w'):wpOp P ops Q i K a w:=by
 have hil:=(Array.getElem?_eq_some_iff.1 ho).1
 obtain ⟨ps1,ps2,ps3⟩:=ZEy List.nodup_range hips
 have hEm:E.get m=none:=(inv.ep2 m fun j hj=>absurd hj (no_m hq j)).trans hem
 obtain ⟨hc,hhc,hhr⟩:=inv.hr
 have blind:ZFR k0 m t i o=true-> ∀w':World,HR g hc w'->Grew g0 w0 g w'->Inv P F nt (ZDH k0 m t ops) s st e e' h' g0 w0 (fun k=>L k||k==i) E g a w':=fun hlit w' h1 h2=>by
  have ho':(ZDH k0 m t ops)[i]? =some (dull o):=by rw [ZDS,ho];simp [hlit]
  obtain ⟨p,hpos⟩:=hp.pos (Array.getElem?_eq_some_iff.1 ho').1
  have hE:isE (ZDH k0 m t ops) i=false:=by unfold isE;rw [ho'];rfl
  exact ZE3 hp ht hz hl inv hpos ho' (E1:=E) (ov:=none) rfl (fun _ h=>by cases h) (g':=g) (w':=w') (v:=undef) ⟨hc,by rw [ZE9 hp ht hz hl hE];exact hhc,h1⟩ inv.env inv.le h2 fun q k ok hq hok hc hL _ hg=>inv.un q k ok hq hok hc hL hg
 by_cases hi0:i=k0
 ·subst hi0
  obtain ⟨r,hop,hdst,hgu,hr⟩:=ZGc (hq.lit o ho)
  have hmk:mkV P E o.op=some (fun _=> .map [] 0,fun i=> .map i,none):=by
   rw [hop]
   rcases hr with rfl|⟨k,n,rfl⟩<;>simp [mkV,hkt,optV,ev,ofConst]
  obtain ⟨rv,ob,sz,m1,m2,m3,_⟩:=ZJg hhr inv.env hmk
  have e1:rv= .map (some w.heap.size):=by
   have:=m3 hc.next
   simp only [Rel,ZDU] at this
   exact this.2
  obtain ⟨ms,z1,z2,_⟩:=m2 hc.next (fun _=>0) hhr.fresh
  rw [ZDU] at z1
  have z2':RelEs g [] ms:=⟨z2.1,fun i e he=>by simp at he⟩
  unfold wpOp
  rw [ho]
  simp only [Region.wanted,hgu,if_true]
  refine .inl ?_
  unfold Oper.wp
  rw [m1]
  show K (a.put o.dst rv) (w.alloc ob)
  rw [hdst,e1]
  have hfr:HR g hc (w.alloc ob):=hhr.frame (by show _<=(w.heap.push ob).size;simp) fun b hb=>by
   show (w.heap.push ob)[_]? =_
   rw [Array.getElem?_push,if_neg (Nat.ne_of_lt (hhr.blk b hb).2)]
  have hgr:Grew g0 w0 g (w.alloc ob):=inv.gr.outside rfl rfl rfl (by show _<=(w.heap.push ob).size;simp) fun k hk=>by
   show (w.heap.push ob)[_]? =_
   have:=inv.gr.size
   rw [Array.getElem?_push,if_neg Zo]
  refine hK _ _ E g ((blind (by simp [ZFR]) _ hfr hgr).at_m hEm _) fun _=>⟨w.heap.size,ms,0,[],?_,inv.gr.size,?_,fun b hb=>Nat.ne_of_lt (hhr.blk b hb).2,z1,?_,z2'⟩
  ·exact Am.Zbe (Yq hmt inv.sz)
  ·show _<(w.heap.push ob).size;simp
  ·have:(ips.filter fun p=>L p.1||p.1==i)=[]:=List.filter_eq_nil_iff.2 fun p hp'=>by
    obtain ⟨q1,o2,q2,q3,_⟩:=ps1 p hp'
    have hpi:p.1≠i:=fun he=>by
     rw [he,ho] at q2;cases q2
     obtain ⟨_,_,hop2,_⟩:=ZFh q3
     rw [hop] at hop2;cases hop2
    have hpi':(p.1==i)=false:=by simpa using hpi
    rw [hpi',Bool.or_false]
    intro hLp
    have hin:=hq.ins p.1 o2 q2 hpi q3
    unfold ZKi at hin
    split at hin
    ·rw [Yb] at hin
     have ho2:(ZDH i m t ops)[p.1]? =some (dull o2):=by rw [ZDS,q2];simp [ZFR,q3]
     have:=ZDN hp hcl p.1 _ ho2 (fun ed h1 h2=>hcl p.1 _ ho2 hLp ed h1 h2) i hin.1
     rw [hLi] at this;cases this
    ·cases hin
   rw [this];exact List.Perm.nil
 ·by_cases hins:ZG2 m t o=true
  ·obtain ⟨k,x,hop,hgu,hdst⟩:=ZFh hins
   have hin:=hq.ins i o ho hi0 hins
   unfold ZKi at hin
   rw [show ZKo o.op=some (k,x) by rw [hop];rfl] at hin
   simp only [Yb] at hin
   obtain ⟨c1,c2⟩:=hin
   have hlit:ZFR k0 m t i o=true:=by unfold ZFR;rw [hins,Bool.or_true]
   have ho':(ZDH k0 m t ops)[i]? =some (dull o):=by rw [ZDS,ho];simp [hlit]
   have hLk:L k0=true:=ZDN hp hcl i _ ho' hrd k0 c1
   obtain ⟨blk,ms,c,es,x1,x2,x3,x4,x5,x6,x7⟩:=hX hLk
   obtain ⟨p,hpm⟩:=ps3 i (List.mem_range.2 hil) o ho hins
   obtain ⟨_,o2,q2,q3,q4⟩:=ps1 _ hpm
   rw [ho] at q2;cases q2
   have hget: ∀u∈ZFg [k,x],E.get u=e'.get u:=fun u hu=>by
    by_cases hw: ∃j,ZEl (ZDH k0 m t ops) j=some u
    ·obtain ⟨j,hj⟩:=hw
     have:=List.all_eq_true.1 (List.all_eq_true.1 c2 u hu) j (List.mem_range.2 (ZFE hj))
     simp only [hj,bne_self_eq_false,Bool.false_or] at this
     exact inv.ep1 u j hj (ZDN hp hcl i _ ho' hrd j this)
    ·have hn: ∀j,ZEl (ZDH k0 m t ops) j≠some u:=fun j hj=>hw ⟨j,hj⟩
     rw [inv.ep2 u fun j hj=>absurd hj (hn j)]
     have:=ZIY hp ht hz hl (p:=(sch (ZDH k0 m t ops)).length) hn (Yc _)
     rw [hl] at this
     exact this.symm
   have hevk:ev E k=ev e' k:=by
    cases k with
    | tmp u=>exact hget u (by simp [ZFg])
    | _=>rfl
   have hevx:ev E x=ev e' x:=by
    cases x with
    | tmp u=>exact hget u (by cases k<;>simp [ZFg])
    | _=>rfl
   unfold prOf at q4
   rw [show ZKo o.op=some (k,x) by rw [hop];rfl] at q4
   simp only at q4
   split at q4
   ·rename_i va vb hva hvb
    cases q4
    have hk:=ZDE inv.env (hevk.trans hva)
    have hx:=ZDE inv.env (hevx.trans hvb)
    obtain ⟨ap1,ap2⟩:=ZkZ hap
    have hne: ∀en∈es,eqT P DEEP kt va en.k=some false:=fun en hen=>by
     have h1:(en.k,en.x)∈es.map fun (e:En)=>(e.k,e.x):=List.mem_map.2 ⟨en,hen,rfl⟩
     obtain ⟨q,hq1,hq2⟩:=List.mem_map.1 (x6.mem_iff.1 h1)
     obtain ⟨hq3,hq4⟩:=List.mem_filter.1 hq1
     have:=ap2 _ hpm q hq3 fun he=>by
      have he:i=q.1:=he
      rw [<-he] at hq4;simp only [hLi] at hq4;cases hq4
     rw [hq2] at this
     exact this
    have hs:ZH3 P kt va es=some none:=by
     unfold ZH3
     rw [if_pos (ap1 _ hpm)]
     exact ZF8 hne 0
    obtain ⟨hck,r',hf,hn⟩:=ZEr (P:=P) (w:=w) hk x7 hs
    simp only at hn
    subst hn
    have hrun:(Instr.mapUpdate t (.map (some blk)) (a.eval k) (a.eval x)).run P w= .ok () {w with heap:=w.heap.setIfInBounds blk (.map (ms.push {key:=a.eval k,val:=a.eval x,born:=c}) (c+1))}:=by
     unfold Instr.mapUpdate
     simp only [Sem.run_bind,run_underlying hkt,Result.andThen_ok,Go.MapKept.run_getObj_map x5,hck,hf,Sem.run_pure,Go.MapKept.run_setObj_map _ x5]
    have hm:a.eval (.tmp m)= .map (some blk):=x1
    unfold wpOp
    rw [ho]
    simp only [Region.wanted,hgu,if_true]
    refine .inl ?_
    unfold Oper.wp
    have hex:(execOp a.eval o).run P w= .ok .skip {w with heap:=w.heap.setIfInBounds blk (.map (ms.push {key:=a.eval k,val:=a.eval x,born:=c}) (c+1))}:=by
     simp only [execOp,hop,hm]
     rw [Sem.run_bind,hrun,Result.andThen_ok];rfl
    rw [hex]
    generalize hw':({w with heap:=w.heap.setIfInBounds blk (.map (ms.push {key:=a.eval k,val:=a.eval x,born:=c}) (c+1))}:World)=w'
    have hwh:w'.heap=w.heap.setIfInBounds blk (.map (ms.push {key:=a.eval k,val:=a.eval x,born:=c}) (c+1)):=by rw [<-hw']
    show K (a.put o.dst undef) w'
    rw [hdst]
    have hfr:HR g hc w':=hhr.frame (by rw [hwh];simp) fun b hb=>by
     rw [hwh,Array.getElem?_setIfInBounds,if_neg (fun he=>x4 b hb he.symm)]
    have hgr:Grew g0 w0 g w':=inv.gr.outside (by rw [<-hw']) (by rw [<-hw']) (by rw [<-hw']) (by rw [hwh];simp) fun k hk=>by
     rw [hwh,Array.getElem?_setIfInBounds,if_neg Zo]
    refine hK a w' E g (blind hlit _ hfr hgr) fun _=>⟨blk,_,c+1,es++[⟨va,vb,c⟩],x1,x2,by rw [hwh];simpa using x3,x4,by rw [hwh,Array.getElem?_setIfInBounds,if_pos rfl,if_pos x3],?_,?_⟩
    ·rw [YB,Yp,List.map_nil]
     refine (List.perm_append_singleton _ _).trans ?_
     have:=(ZF7 (L:=L) hLi ps2 hpm).map fun q=>q.2
     exact ((x6.cons _).trans this.symm)
    ·refine ⟨by simp [x7.1],fun j en hen=>?_⟩
     rw [Array.getElem?_push]
     rw [List.getElem?_append] at hen
     split at hen
     ·rename_i hj
      rw [if_neg (by have:=x7.1;omega)]
      exact x7.2 j en hen
     ·rename_i hj
      have hj0:j-es.length=0:=by
       have:=Am.Zaq hen
       simpa using this
      rw [hj0] at hen
      simp at hen
      subst hen
      have:=x7.1
      rw [if_pos Zo]
      exact ⟨_,rfl,hk,hx,rfl⟩
   ·cases q4
  ·have hins:ZG2 m t o=false:=by simpa using hins
   have hlit:ZFR k0 m t i o=false:=by
    unfold ZFR
    rw [hins,Bool.or_false,Bool.eq_false_iff]
    exact fun hb=>hi0 (Nat.eq_of_beq_eq_true hb)
   have ho':(ZDH k0 m t ops)[i]? =some o:=by rw [ZDS,ho];simp [hlit]
   refine ZHm hq ho hlit (ZG4 hp ht hz hl hF hN hck inv hg0 hcl ho' hLi hrd fun v w' E' g' inv' r1 r2=>hK _ w' E' g' inv' ?_)
   refine hX.keep hi0 (fun p hp' he=>?_) r1 r2 (hq.dst i o ho hi0) v
   obtain ⟨_,o2,q2,q3,_⟩:=ps1 p hp'
   rw [he,ho] at q2;cases q2
   rw [hins] at q3;cases q3
omit hF hN hck hmt hkt hap hem in
theorem ZHv (inv:Inv P F nt (ZDH k0 m t ops) s st e e' h' g0 w0 L E g a w) (hX:Xs ips k0 m w0 L g a w) (hg0:HR g0 h w0) (hall: ∀i,i<ops.size->L i=true) {Q:Act->World->Prop} (hD:Done nt (e'.set m (.map h'.next)) (h'.new (.mapU (ips.map (·.2)))) g0 w0 Q):Q a w:=by
 obtain ⟨h1,h2⟩:=ZIS hp ht hz hl inv fun i hi=>hall i (by rw [ZHe] at hi;exact hi)
 obtain ⟨ps1,_,_⟩:=ZEy List.nodup_range hips
 obtain ⟨blk,ms,c,es,x1,x2,x3,x4,x5,x6,x7⟩:=hX (hall k0 hq.lt)
 have hfl:(ips.filter fun p=>L p.1)=ips:=List.filter_eq_self.2 fun p hp=>hall p.1 (by have:=(ps1 p hp).1;simpa using this)
 rw [hfl] at x6
 have hun: ¬(g.up (h'.next+1)).ex h'.next:=h2.fresh
 have hle:Le0 g ((g.up (h'.next+1)).grow h'.next blk 0):=(ZET g _).trans (ZDZ _ hun _ _)
 have hr:=(h2.ghost (.mapU (ips.map (·.2))) none).adopt (o:= .mapU (ips.map (·.2))) hun (Yz _) (by rw [ZG8,if_pos rfl]) rfl (blk:=blk) (s:=0) (by
  show g.base<=blk
  rw [inv.le.base]
  exact Yy hg0.bs x2) x3 x4 ⟨ms,c,es,by rw [ZDU];exact x5,x6,x7.mono hle,by rw [ZDU]⟩ (ZFn h2 _ none)
 refine hD a w _ ⟨h1.1,fun u v hv=>?_⟩ inv.sz hr ⟨inv.le.toLe0.trans hle,?_,fun b hb=>?_⟩ ⟨inv.gr.os,inv.gr.tape,inv.gr.output,inv.gr.size,inv.gr.old,fun b hb=>?_⟩
 ·rw [T.get_set] at hv
  split at hv
  ·rename_i hu
   cases hv
   rw [hu,x1]
   simp only [Rel]
   exact ⟨.inr rfl,by rw [ZDU]⟩
  ·exact (h1.2 u v hv).mono hle
 ·have:=inv.le.top
  have:=h2.top
  simp only [G.grow,G.up]
  omega
 ·rcases hb with hb|hb
  ·exact inv.le.new b hb
  ·right
   rw [hb,<-h2.top]
   exact inv.le.top
 ·rcases hb with hb|hb
  ·rcases inv.gr.img b hb with ⟨b0,q1,q2⟩|q1
   ·exact .inl ⟨b0,q1,by rw [hle.β b hb];exact q2⟩
   ·exact .inr (by rw [hle.β b hb];exact q1)
  ·exact .inr (by rw [hb,ZDU];exact x2)
end
theorem ZFU {n1 i:Nat} (hi:i<n1):(pre n1 ops)[i]? =ops[i]? :=by
 unfold pre
 rw [List.getElem?_toArray,YG,if_pos hi,Array.getElem?_toList]
theorem ZI9 {n1 i:Nat} (hi:n1<=i):(pre n1 ops)[i]? =none:=by
 unfold pre
 rw [List.getElem?_toArray,YG,if_neg Zo]
theorem ZJx {n1:Nat} (hn:n1<=ops.size):(pre n1 ops).size=n1:=by
 unfold pre
 simp
 omega
theorem ZJb {a b:Nat} (h:Nat.blt a b=true):a<b:=by rwa [Nat.blt_eq] at h
structure Tl (n1:Nat) (ops:Array Oper):Prop where
 le:n1<=ops.size
 gu: ∀i o j b,ops[i]? =some o->i<n1->o.guard=some (j,b)->j<n1
 bi: ∀i o j,ops[i]? =some o->n1<=i->j<i-> ∃ed∈o.after,ed.on=j/\Region.binds .any ed=true
 on: ∀i o,ops[i]? =some o->n1<=i-> ∀ed∈o.after,Region.binds .any ed=true->ed.on<i
theorem ZHk {n1:Nat} (hc:ZJm n1 ops=true):Tl n1 ops:=by
 unfold ZJm at hc
 rw [Yb] at hc
 obtain ⟨h1,h2⟩:=hc
 have key: ∀i o,ops[i]? =some o->(if Nat.blt i n1 then (match o.guard with|some (j,_)=>Nat.blt j n1|none=>true) else (List.range i).all (fun j=>o.after.any fun ed=>Nat.beq ed.on j && Region.binds .any ed) && o.after.all fun ed=> !Region.binds .any ed||Nat.blt ed.on i)=true:=fun i o ho=>by
  have:=List.all_eq_true.1 h2 i (List.mem_range.2 (Array.getElem?_eq_some_iff.1 ho).1)
  rw [ho] at this
  exact this
 have hno: ∀i,n1<=i->Nat.blt i n1=false:=fun i hi=>by
  rw [Bool.eq_false_iff]
  intro hb
  have:=ZJb hb
  omega
 refine ⟨Nat.le_of_ble_eq_true h1,fun i o j b ho hi hg=>?_,fun i o j ho hi hj=>?_,fun i o ho hi ed he hb=>?_⟩
 ·have:=key i o ho
  rw [if_pos (show Nat.blt i n1=true by rw [Nat.blt_eq];exact hi),hg] at this
  exact ZJb this
 ·have:=key i o ho
  rw [hno i hi] at this
  simp only [Yw,if_false,Yb] at this
  have:=List.all_eq_true.1 this.1 j (List.mem_range.2 hj)
  rw [Array.any_eq_true] at this
  obtain ⟨x,hx,hb⟩:=this
  rw [Yb] at hb
  exact ⟨o.after[x],Array.getElem_mem hx,Nat.eq_of_beq_eq_true hb.1,hb.2⟩
 ·have:=key i o ho
  rw [hno i hi] at this
  simp only [Yw,if_false,Yb] at this
  have h3:=this.2
  rw [Array.all_eq_true] at h3
  obtain ⟨x,hx,rfl⟩:=Array.getElem_of_mem he
  have:=h3 x hx
  simp only [hb,Bool.not_true,Bool.false_or] at this
  exact ZJb this
theorem ZJn {n1:Nat} (ht:Tl n1 ops) {j:Nat} (hj:j<n1) {K:Act->World->Prop} {Q:Exit->Act->World->Prop} (hw:wpOp P (pre n1 ops) Q j K a w):wpOp P ops Q j K a w:=by
 unfold wpOp at hw⊢
 rw [ZFU hj] at hw
 cases ho:ops[j]? with
 | none=>rw [ho] at hw;exact hw
 | some o=>
   rw [ho] at hw
   simp only at hw⊢
   have hwa:Region.wanted o (yielded (pre n1 ops) a.tmps)=Region.wanted o (yielded ops a.tmps):=by
     unfold Region.wanted
     split
     · rfl
     · rename_i x want hg
       unfold yielded
       rw [ZFU (ht.gu j o x want ho hj hg)]
   rwa [hwa] at hw
def Upto (ops:Array Oper) (k:Nat) (listed:Array Bool):Prop:=listed.size=ops.size/\ ∀i,i<ops.size->listed.getD i false=decide (i<k)
theorem ZGi {listed:Array Bool} {i:Nat} (hi:i<listed.size) (x y:Bool):listed.getD i x=listed.getD i y:=by simp [Array.getD,hi]
theorem ZJA (hF:Zcv P F) {n1:Nat} (ht:Tl n1 ops) {Q:Exit->Act->World->Prop}: ∀(n k:Nat) {g:G} {e:Env} {a:Act} {w:World} {h:H} {listed:Array Bool},k+n=ops.size->n1<=k->Upto ops k listed->HR g h w->EnvR g e a->nt<=a.tmps.size->
   runV P F nt ops (ops.toList.drop k) e h=some (e',h')->Done nt e' h' g w (Q .normal)-> ∀fuel,n<=fuel->wpAny P .any ops Q fuel listed a w:=by
 intro n
 induction n with
 | zero=>
   intro k g e a w h listed hk h1 hu hh he hs hx hD fuel _
   have hdrop:ops.toList.drop k=[]:=by rw [List.drop_of_length_le];simp;omega
   rw [hdrop] at hx
   simp only [runV,Ye,YL] at hx
   obtain ⟨rfl,rfl⟩:=hx
   have hq:=hD a w g he hs hh (Le.refl g) (Grew.refl _ _)
   have hr:Region.ready .any ops listed=[]:=List.eq_nil_iff_forall_not_mem.2 fun j hj=>by
     obtain ⟨h0,o,ho,_⟩:=mem_ready.1 hj
     have hjl:=(Array.getElem?_eq_some_iff.1 ho).1
     have:=hu.2 j hjl
     rw [ZGi (by rw [hu.1];exact hjl) false true,h0] at this
     simp at this
     omega
   cases fuel with
   | zero=>exact ⟨hr,hq⟩
   | succ f=>exact ⟨fun _=>hq,fun j hj=>by rw [hr] at hj;cases hj⟩
 | succ n ih=>
   intro k g e a w h listed hk h1 hu hh he hs hx hD fuel hf
   obtain ⟨f,rfl⟩: ∃f,fuel=f+1:=⟨fuel-1,by omega⟩
   have hkl:k<ops.size:=by omega
   have ho:ops[k]? =some (ops[k]'hkl):=Array.getElem?_eq_getElem _
   have hdrop:ops.toList.drop k=ops[k]'hkl::ops.toList.drop (k+1):=by
     rw [List.drop_eq_getElem_cons (by simpa using hkl)];simp
   rw [hdrop] at hx
   simp only [runV] at hx
   split at hx
   · rename_i e1 h1' hst
     have hkr:k∈Region.ready .any ops listed:=mem_ready.2 ⟨by
       have:=hu.2 k hkl
       rw [ZGi (by rw [hu.1];exact hkl) false true] at this
       simpa using this,_,ho,fun ed he hb=>by
         have hlt:=ht.on k _ ho h1 ed he hb
         have:=hu.2 ed.on Zo
         simpa [hlt] using this⟩
     refine ⟨fun hr=>(by rw [hr] at hkr;cases hkr),fun j hj=>?_⟩
     obtain ⟨h0,o,hoj,hdep⟩:=mem_ready.1 hj
     have hjl:=(Array.getElem?_eq_some_iff.1 hoj).1
     have hjk:k<=j:=by
       have:=hu.2 j hjl
       rw [ZGi (by rw [hu.1];exact hjl) false true,h0] at this
       simpa using this
     have hje:j=k:=by
       rcases Yt k j with hlt|hge
       · obtain ⟨ed,e1,e2,e3⟩:=ht.bi j o k hoj Zo hlt
         have h2:=hdep ed e1 e3
         rw [e2] at h2
         have:=hu.2 k hkl
         rw [h2] at this
         simp at this
       · omega
     subst hje
     refine ZyK hF hh he hs ho hst fun v w' g' r1 r2 r3 r4=>?_
     refine ih (j+1) Zo Zo ⟨by simpa using hu.1,fun i hi=>?_⟩ r2 r1 (by rw [Am.Zd6];exact hs) hx (hD.next r3 r4) f Zo
     by_cases hij:j=i
     · subst hij
       simp [Array.getD,hu.1,hi]
     · rw [getD_set_ne false hij,hu.2 i hi]
       congr 1
       simp only [eq_iff_iff]
       omega
   · cases hx
section
variable {k0 m t kt el n1:Nat} {ips:List (Nat×V×V)}
variable {s:List Snap} {st:Nat->Env×H} (htl:Tl n1 ops) (hp:Pl (ZDH k0 m t (pre n1 ops))) (ht:Tr P F nt (ZDH k0 m t (pre n1 ops)) (sch (ZDH k0 m t (pre n1 ops))) s st) (hz:st 0=(e,h)) (hl:st (sch (ZDH k0 m t (pre n1 ops))).length=(e',h'))
 (hF:Zcv P F) (hN:ZEi F) (hck: ∀x∈s,ZGH (ZDH k0 m t (pre n1 ops)) P F (ZDR (ZDH k0 m t (pre n1 ops)) s h') e' x=true)
 (hq:LitPl (pre n1 ops) k0 m t) (hem:e.get m=none) (hmt:m<nt) (hkt:P.underlying t=some (.map kt el)) (hips:ZEx m t (pre n1 ops) e' (List.range (pre n1 ops).size)=some ips) (hap:Zxc P kt ips=true)
include htl hp ht hz hl hF hN hck hq hem hmt hkt hips hap
theorem ZJS (hg0:HR g0 h w0) {e2:Env} {h2:H} (hx:runV P F nt ops (ops.toList.drop n1) (e'.set m (.map h'.next)) (h'.new (.mapU (ips.map (·.2))))=some (e2,h2)) {Q:Exit->Act->World->Prop} (hD:Done nt e2 h2 g0 w0 (Q .normal)): ∀(fuel:Nat) (listed:Array Bool) {E:Env} {g:G} {a:Act} {w:World},
   listed.size=ops.size->(∀(k:Nat) (o:Oper),ops[k]? =some o->listed.getD k false=true-> ∀ed∈o.after,Region.binds .any ed=true->listed.getD ed.on false=true)->(∀i,n1<=i->listed.getD i false=false)->(listed.toList.take n1).count false+(ops.size-n1)<=fuel->
   Inv P F nt (ZDH k0 m t (pre n1 ops)) s st e e' h' g0 w0 (fun i=>listed.getD i false) E g a w->Xs ips k0 m w0 (fun i=>listed.getD i false) g a w->wpAny P .any ops Q fuel listed a w:=by
 have hsp:(pre n1 ops).size=n1:=ZJx htl.le
 have hD2:Done nt (e'.set m (.map h'.next)) (h'.new (.mapU (ips.map (·.2)))) g0 w0 fun a w=> ∀fuel,ops.size-n1<=fuel-> ∀listed,Upto ops n1 listed->wpAny P .any ops Q fuel listed a w:=fun a' w' g' r1 r2 r3 r4 r5 fuel hf listed hu=>
   ZJA hF htl (ops.size-n1) n1 (by have:=htl.le;omega) (Yc _) hu r3 r1 r2 hx (hD.next r4 r5) fuel hf
 intro fuel
 induction fuel with
 | zero=>
   intro listed E g a w hsz hcl htail hc inv hX
   have hall: ∀i,i<n1->listed.getD i false=true:=fun i hi=>by
     have his:i<listed.size:=by have:=htl.le;omega
     cases hb:listed.getD i false with
     | true=>rfl
     | false=>
       exfalso
       simp only [Array.getD,his,dif_pos] at hb
       have hb:listed[i]=false:=hb
       have:0<(listed.toList.take n1).count false:=List.count_pos_iff.2 (YA (i:=i) (by rw [YG,if_pos hi,Array.getElem?_toList,Array.getElem?_eq_getElem his,hb]))
       omega
   exact ZHv hp ht hz hl hq hips inv hX hg0 (fun i hi=>hall i Zo) hD2 0 Zo listed ⟨hsz,fun i hi=>by
     by_cases h1:i<n1
     · rw [hall i h1];simp [h1]
     · rw [htail i Zo];simp [h1]⟩
 | succ fuel ih=>
   intro listed E g a w hsz hcl htail hc inv hX
   by_cases hall: ∀i,i<n1->listed.getD i false=true
   · exact ZHv hp ht hz hl hq hips inv hX hg0 (fun i hi=>hall i Zo) hD2 (fuel+1) Zo listed ⟨hsz,fun i hi=>by
       by_cases h1:i<n1
       · rw [hall i h1];simp [h1]
       · rw [htail i Zo];simp [h1]⟩
   · refine ⟨fun hr=>?_,fun j hj=>?_⟩
     · exfalso
       obtain ⟨i,hi⟩:=Classical.not_forall.1 hall
       obtain ⟨hi,hif⟩:=Classical.not_imp.1 hi
       obtain ⟨j,j1,j2,j3⟩:=Am.Zmv (fun i=>listed.getD i false) n1 ⟨i,hi,by simpa using hif⟩
       have hjl:j<ops.size:=by have:=htl.le;omega
       have ho:ops[j]? =some (ops[j]'hjl):=Array.getElem?_eq_getElem _
       have ho':(ZDH k0 m t (pre n1 ops))[j]? =some (if ZFR k0 m t j (ops[j]'hjl) then dull (ops[j]'hjl) else ops[j]'hjl):=by rw [ZDS,ZFU j1,ho];rfl
       have hok:=hp.an j (Array.getElem?_eq_some_iff.1 ho').1
       unfold ZJK at hok
       rw [ho'] at hok
       simp only [Yb] at hok
       have haf:(if ZFR k0 m t j (ops[j]'hjl) then dull (ops[j]'hjl) else ops[j]'hjl).after=(ops[j]'hjl).after:=by split<;>rfl
       have:j∈Region.ready .any ops listed:=mem_ready.2 ⟨by
         rw [ZGi Zo true false];exact j2,_,ho,fun ed he hb=>by
           have:=List.all_eq_true.1 hok.1 ed (by rw [haf];simpa using he)
           simp only [hb,Bool.not_true,Bool.false_or,Nat.blt_eq] at this
           exact j3 _ this⟩
       rw [hr] at this;cases this
     · obtain ⟨hj0,o,ho,hdep⟩:=mem_ready.1 hj
       have hjl:=(Array.getElem?_eq_some_iff.1 ho).1
       have hjs:j<listed.size:=by omega
       have hj0':listed.getD j false=false:=by rw [ZGi hjs false true];exact hj0
       have hjn:j<n1:=by
         rcases Yt j n1 with h1|h1
         · exact h1
         · exfalso
           refine hall fun i hi=>?_
           obtain ⟨ed,q1,q2,q3⟩:=htl.bi j o i ho h1 Zo
           have:=hdep ed q1 q3
           rwa [q2] at this
       have hcl':Cl (ZDH k0 m t (pre n1 ops)) fun i=>listed.getD i false:=fun k o2 hk hL ed he hb=>by
         rw [ZDS] at hk
         rcases Yt k n1 with hkn|hkn
         · rw [ZFU hkn] at hk
           cases hok:ops[k]? with
           | none=>rw [hok] at hk;cases hk
           | some o3=>
             rw [hok] at hk
             simp only [YM,Ye] at hk
             have haf:o2.after=o3.after:=by rw [<-hk];split<;>rfl
             exact hcl k o3 hok hL ed (by rw [<-haf];exact he) hb
         · rw [ZI9 hkn] at hk;cases hk
       refine ZJn htl hjn (ZJf hp ht hz hl hF hN hck hq hem hmt hkt hips hap inv hX hg0 hcl' (by rw [ZFU hjn];exact ho) hj0' hdep fun a' w' E' g' inv' hX'=>?_)
       have hL:(fun k=>listed.getD k false||k==j)=fun k=>(listed.setIfInBounds j true).getD k false:=by
         funext k
         by_cases hkj:j=k
         · subst hkj
           simp [Array.getD,hjs]
         · rw [getD_set_ne false hkj]
           have:(k==j)=false:=by simp;omega
           rw [this,Bool.or_false]
       rw [hL] at inv' hX'
       refine ih _ (by simpa using hsz) (fun k o2 ho2 hk ed he hb=>?_) (fun i hi=>?_) ?_ inv' hX'
       · refine getD_set_true ?_
         by_cases hkj:j=k
         · subst hkj
           rw [ho] at ho2;cases ho2
           exact hdep ed he hb
         · rw [getD_set_ne false hkj] at hk
           exact hcl k o2 ho2 hk ed he hb
       · rw [getD_set_ne false Zo]
         exact htail i hi
       · have hlj:(listed.toList.take n1)[j]? =some false:=by
           simp only [Array.getD,hjs,dif_pos] at hj0
           have:listed[j]=false:=hj0
           rw [YG,if_pos hjn,Array.getElem?_toList,Array.getElem?_eq_getElem hjs,this]
         rw [Array.toList_setIfInBounds,List.take_set]
         have:=Am.Zt0 hlj
         omega
end
theorem ZGY {x:Env×H} (hx:runL ops P F nt e h=some x): ∃n1 k0 m t kt el e' h' ips,Tl n1 ops/\LitPl (pre n1 ops) k0 m t/\e.get m=none/\m<nt/\P.underlying t=some (.map kt el)/\runD (ZDH k0 m t (pre n1 ops)) P F nt e h=some (e',h')/\ZEx m t (pre n1 ops) e' (List.range (pre n1 ops).size)=some ips/\Zxc P kt ips=true/\
  runV P F nt ops (ops.toList.drop n1) (e'.set m (.map h'.next)) (h'.new (.mapU (ips.map (·.2))))=some x:=by
 unfold runL at hx
 split at hx
 ·rename_i k0 m t _
  split at hx
  ·rename_i htl
   split at hx
   ·rename_i e1 h1 hr1
    unfold ZKO at hr1
    split at hr1
    ·rename_i hc
     simp only [Yb,Option.isNone_iff_eq_none,Nat.blt_eq] at hc
     split at hr1
     ·rename_i kt el hkt
      split at hr1
      ·rename_i e' h' hr
       split at hr1
       ·rename_i ips hi
        split at hr1
        ·rename_i ha
         cases hr1
         exact ⟨_,k0,m,t,kt,el,e',h',ips,ZHk htl,ZHw hc.1.1,hc.1.2,hc.2,hkt,hr,hi,ha,hx⟩
        ·cases hr1
       ·cases hr1
      ·cases hr1
     ·cases hr1
    ·cases hr1
   ·cases hx
  ·cases hx
 ·cases hx
theorem ZFT (hF:ZEi F): ∀(l:List Oper) {e:Env} {h:H} {x:Env×H},runV P F nt ops l e h=some x->h.next<=x.2.next
 | [],e,h,x,hx=>by
   simp only [runV,Ye] at hx
   subst hx;exact Yc _
 | o::l,e,h,x,hx=>by
   simp only [runV] at hx
   split at hx
   · rename_i e1 h1 hst
     refine Yy ?_ (ZFT hF l hx)
     obtain ⟨b,ov,_,h2,h3,_⟩:=ZEg hst
     cases b with
     | true=>exact ZGo hF (h2 rfl)
     | false=>
       have h4:h1=h:=(h3 rfl).2
       rw [h4];exact Yc _
   · cases hx
theorem ZIx (hN:ZEi F) {x:Env×H} (hx:runL ops P F nt e h=some x):h.next<=x.2.next:=by
 obtain ⟨_,_,_,_,_,_,e',h',_,_,_,_,_,_,hr,_,_,hv⟩:=ZGY hx
 exact Yy (Yy (ZG3 hN hr) (Nat.le_succ _)) (ZFT hN _ hv)
theorem ZHJ (hN:ZEi F) {x:Env×H} (hx:ZKg ops P F nt e h=some x):h.next<=x.2.next:=by
 unfold ZKg at hx
 split at hx
 ·rename_i r hr
  cases hx
  exact ZG3 hN hr
 ·exact ZIx hN hx
theorem ZHC (hF:Zcv P F) (hN:ZEi F) (hh:HR g h w) (he:EnvR g e a) (hs:nt<=a.tmps.size) (hx:runL ops P F nt e h=some (e',h')) {id:Nat} {Q:Exit->Act->World->Prop} (hD:Done nt e' h' g w (Q .normal)):
  (Code.region id ops true).wp P Q a w:=by
 obtain ⟨n1,k0,m,t,kt,el,e1,h1,ips,htl,hq,hem,hmt,hkt,hr,hips,hap,hv⟩:=ZGY hx
 obtain ⟨hp,hfol,s,st,hz,hl,ht,hck⟩:=ZFN hr
 refine wp_region_any hfol ?_
 have hh':HR g h {w with drawn:=w.drawn+1}:=hh.sameHeap rfl
 have hD':Done nt e' h' g {w with drawn:=w.drawn+1} (Q .normal):=hD.next (Le.refl g) ⟨rfl,rfl,rfl,Yc _,fun _ _ _=>rfl,fun b hb=> .inl ⟨b,hb,rfl⟩⟩
 have hgetD: ∀i,(Array.replicate ops.size false).getD i false=false:=fun i=>by
  simp only [Array.getD]
  split
  ·simp
  ·rfl
 obtain ⟨q,q1,q2,q3,q4,_⟩:=ht.heap (h':=h1) (by rw [hl]) (sch (ZDH k0 m t (pre n1 ops))).length 0 Zo
 refine ZJS htl hp ht hz hl hF hN hck hq hem hmt hkt hips hap hh' hv hD' ops.size (Array.replicate ops.size false) (E:=e) (g:=g.up (st q).2.next) Zs (fun k o _ hk=>by rw [hgetD] at hk;cases hk) (fun i _=>hgetD i) ?_ ?_ fun hk=>(by simp only [hgetD] at hk;cases hk)
 ·have:=htl.le
  simp [List.take_replicate,List.count_replicate]
  omega
 have hcnt:cE (ZDH k0 m t (pre n1 ops)) (fun i=>(Array.replicate ops.size false).getD i false)=0:=by
  unfold cE
  rw [List.length_eq_zero_iff,List.filter_eq_nil_iff]
  intro k _
  rw [hgetD]
  simp
 have h0:HR g (st 0).2 {w with drawn:=w.drawn+1}:=by rw [hz];exact hh'
 have hgh:=ZIB ht h0 (Yd q) q2 fun r i _ h2 h3=>q4 r i (Yd _) h2 h3
 have hle: ∀b,b<=(sch (ZDH k0 m t (pre n1 ops))).length->h.next<=(st b).2.next:=fun b hb=>by
  have:=ht.mono hN (Yd _) hb
  rw [hz] at this
  exact this
 refine ⟨⟨_,by rw [hcnt];rw [List.drop_zero] at q3;exact q3,hgh⟩,he.mono (ZET _ _),fun t j _ hL=>?_,fun t _=>rfl,hs,⟨ZET _ _,?_,fun b hb=> .inl hb⟩,(Grew.refl _ _).up _,fun p i o hpos _ _ _ _ hex=>?_⟩
 ·rw [hgetD] at hL;cases hL
 ·show g.top<=(st q).2.next
  rw [hh.top]
  exact hle q q2
 ·have h1:=hh.nx _ hex
  have:=hle p (by have:=Am.Zaq hpos;omega)
  omega
theorem ZIz (hF:Zcv P F) (hN:ZEi F) (hh:HR g h w) (he:EnvR g e a) (hs:nt<=a.tmps.size) (hx:ZKg ops P F nt e h=some (e',h')) {id:Nat} {Q:Exit->Act->World->Prop} (hD:Done nt e' h' g w (Q .normal)):
  (Code.region id ops true).wp P Q a w:=by
 unfold ZKg at hx
 split at hx
 ·rename_i r hr
  cases hx
  exact ZHn hF hN hh he hs hr hD
 ·exact ZHC hF hN hh he hs hx hD
end Go.Cm
end
section
namespace Go.Cm
open Go.Am (Zaw Zhz ZjZ ZuJ Zk0 Zra)
attribute [local instance] wi0
variable {P:Program} {F:ZaQ} {g:G} {e e':Env} {a:Act} {w:World} {h h':H} {ov:Option V} {o:Oper}
def X.toExit:X->Exit
 | .normal=> .normal
 | .exit id=> .exit id
 | .ret=> .ret
def Zv5 (P:Program) (tab:Nat->Option Fn) (n:Nat):Prop:=
 ∀(nt:Nat) (c:Code) (e:Env) (h:H) (x:X) (e':Env) (h':H),exec P tab n nt c e h=some (x,e',h')-> ∀(g:G) (a:Act) (w:World),HR g h w->EnvR g e a->nt<=a.tmps.size->
  ∀Q:Exit->Act->World->Prop,Done nt e' h' g w (Q x.toExit)->c.wp P Q a w
def ZG1 {tab:Nat->Option Fn} (hF:ZEi F) {nt:Nat} {ops:Array Oper}: ∀(l:List Oper) {e:Env} {h:H} {x:Env×H},runV P F nt ops l e h=some x->h.next<=x.2.next
 | [],e,h,x,hx=>by
   simp only [runV,Ye] at hx
   subst hx
   exact Yc _
 | o::l,e,h,x,hx=>by
   simp only [runV] at hx
   split at hx
   · rename_i e1 h1 hst
     obtain ⟨b,ov,_,h2,h3,_⟩:=ZEg hst
     refine Yy ?_ (ZG1 (tab:=tab) hF l hx)
     cases b with
     | true=>exact ZGo hF (h2 rfl)
     | false=>have h4:=(h3 rfl).2;simp only at h4;rw [h4];exact Yc _
   · cases hx
def ZIv (P:Program) (tab:Nat->Option Fn):Prop:= ∀f,match tab f with
 | some (.code fn)=>P.funcs[f]? =some fn
 | some (.prim p)=> ∀args h v h',p args h=some (v,h')->ZGm P f args h v h'/\h.next<=h'.next
 | some (.ext p)=> ∀args h v,p args=some v->ZGm P f args h v h
 | none=>True
def ZEP {tab:Nat->Option Fn} (hT:ZIv P tab) {ex:Nat->Code->Env->H->Option (X×Env×H)} (he: ∀nt c e h x e' h',ex nt c e h=some (x,e',h')->h.next<=h'.next):ZEi (Zja P tab ex):=by
 intro f args h v h' hx
 have hTf:=hT f
 unfold Zja at hx
 split at hx
 ·split at hx
  ·split at hx
   ·cases hx
   ·split at hx
    ·cases hx
    ·rename_i x e h2 hnx hex
     split at hx
     ·simp only [Ye,YL] at hx
      obtain ⟨_,rfl⟩:=hx
      exact he _ _ _ _ _ _ _ hex
     ·cases hx
    ·cases hx
  ·cases hx
 ·rename_i p hp
  rw [hp] at hTf
  exact (hTf _ _ _ _ hx).2
 ·simp only [YF,YL] at hx
  obtain ⟨_,_,_,rfl⟩:=hx
  exact Yc _
 ·cases hx
def ZG7 {tab:Nat->Option Fn} (hT:ZIv P tab): ∀(n nt:Nat) (c:Code) (e:Env) (h:H) (x:X) (e':Env) (h':H),exec P tab n nt c e h=some (x,e',h')->h.next<=h'.next
 | 0,_,_,_,_,_,_,_,hx=>by simp [exec] at hx
 | n+1,nt,c,e,h,x,e',h',hx=>by
   have ih:=ZG7 hT n
   cases c with
   | skip=>simp only [exec,Ye,YL] at hx;obtain ⟨_,_,rfl⟩:=hx;exact Yc _
   | label l=>simp only [exec,Ye,YL] at hx;obtain ⟨_,_,rfl⟩:=hx;exact Yc _
   | exit id=>simp only [exec,Ye,YL] at hx;obtain ⟨_,_,rfl⟩:=hx;exact Yc _
   | ret=>simp only [exec,Ye,YL] at hx;obtain ⟨_,_,rfl⟩:=hx;exact Yc _
   | scope b=>simp only [exec] at hx;exact ih _ _ _ _ _ _ _ hx
   | region id ops draw=>
     simp only [exec] at hx
     split at hx
     · rename_i e1 h1 hr
       simp only [Ye,YL] at hx
       obtain ⟨_,_,rfl⟩:=hx
       split at hr
       · exact ZHJ (ZEP hT ih) hr
       · exact ZG1 (tab:=tab) (ZEP hT ih) _ hr
     · cases hx
   | seq c1 c2=>
     simp only [exec] at hx
     split at hx
     · rename_i e1 h1 h2
       exact Yy (ih _ _ _ _ _ _ _ h2) (ih _ _ _ _ _ _ _ hx)
     · exact ih _ _ _ _ _ _ _ hx
   | cond x0 c1 c2=>
     simp only [exec] at hx
     split at hx
     · exact ih _ _ _ _ _ _ _ hx
     · cases hx
   | block id c1=>
     simp only [exec] at hx
     split at hx
     · rename_i i e1 h1 hr
       split at hx<;>
       · simp only [Ye,YL] at hx
         obtain ⟨_,_,rfl⟩:=hx
         exact ih _ _ _ _ _ _ _ hr
     · exact ih _ _ _ _ _ _ _ hx
   | loop c1=>
     simp only [exec] at hx
     split at hx
     · rename_i e1 h1 hr
       exact Yy (ih _ _ _ _ _ _ _ hr) (ih _ _ _ _ _ _ _ hx)
     · exact ih _ _ _ _ _ _ _ hx
   | _=>simp [exec] at hx
def ZIq {tab:Nat->Option Fn} (hT:ZIv P tab) (n:Nat):ZEi (Zja P tab (exec P tab n)):=ZEP hT (ZG7 hT n)
def Zs2 {tab:Nat->Option Fn} (hN: ∀n,ZEi (Zja P tab (exec P tab n))) (hC: ∀n,Zv5 P tab n->Zcv P (Zja P tab (exec P tab n))): ∀n,∀k,k<=n->Zv5 P tab k:=by
 intro n
 induction n with
 | zero=>
   intro k hk nt c e h x e' h' hx
   have:k=0:=by omega
   subst this
   simp [exec] at hx
 | succ n ih=>
   intro k hk
   rcases Yt k (n+1) with hlt|hge
   · exact ih k Zo
   have:k=n+1:=by omega
   subst this
   have hP:=ih n (Yc _)
   intro nt c e h x e' h' hx g a w hh he hs Q hD
   cases c with
   | skip=>
     simp only [exec,Ye,YL] at hx
     obtain ⟨rfl,rfl,rfl⟩:=hx
     exact wp_skip (hD a w g he hs hh (Le.refl g) (Grew.refl _ _))
   | label l=>
     simp only [exec,Ye,YL] at hx
     obtain ⟨rfl,rfl,rfl⟩:=hx
     exact wp_label (hD a w g he hs hh (Le.refl g) (Grew.refl _ _))
   | region id ops draw=>
     simp only [exec] at hx
     split at hx
     · rename_i e1 h1 hr
       simp only [Ye,YL] at hx
       obtain ⟨rfl,rfl,rfl⟩:=hx
       split at hr
       · rename_i hdr
         subst hdr
         exact ZIz (hC n hP) (hN n) hh he hs hr hD
       · rename_i hdr
         have hdr:draw=false:=by simpa using hdr
         subst hdr
         refine wp_region ?_
         rw [List.range_eq_range']
         exact ZpG (hC n hP) ops.size 0 Zo hh he hs (by simpa using hr) hD
     · cases hx
   | seq c1 c2=>
     simp only [exec] at hx
     refine wp_seq ?_
     split at hx
     · rename_i e1 h1 h2
       refine hP nt c1 e h .normal e1 h1 h2 g a w hh he hs _ fun a1 w1 g1 q1 q2 q3 q4 q5=>?_
       exact hP nt c2 e1 h1 x e' h' hx g1 a1 w1 q3 q1 q2 Q (hD.next q4 q5)
     · rename_i r hr
       refine hP nt c1 e h x e' h' hx g a w hh he hs _ fun a1 w1 g1 q1 q2 q3 q4 q5=>?_
       have hq:=hD a1 w1 g1 q1 q2 q3 q4 q5
       cases x with
       | normal=>exact absurd hx (fun hh=>hr _ _ hh)
       | exit id=>exact hq
       | ret=>exact hq
   | cond x0 c1 c2=>
     simp only [exec] at hx
     split at hx
     · rename_i t ht
       refine wp_cond (ZD9 (ZDE he ht)) ?_
       cases t with
       | true=>exact hP nt c1 e h x e' h' hx g a w hh he hs Q hD
       | false=>exact hP nt c2 e h x e' h' hx g a w hh he hs Q hD
     · cases hx
   | block id c1=>
     simp only [exec] at hx
     refine wp_block ?_
     split at hx
     · rename_i i e1 h1 hr
       refine hP nt c1 e h (.exit i) e1 h1 hr g a w hh he hs _ fun a1 w1 g1 q1 q2 q3 q4 q5=>?_
       split at hx
       · rename_i hi
         simp only [Ye,YL] at hx
         obtain ⟨rfl,rfl,rfl⟩:=hx
         have hi:i=id:=by simpa using hi
         simp only [X.toExit,Exit.inBlock,hi,if_true]
         exact hD a1 w1 g1 q1 q2 q3 q4 q5
       · rename_i hi
         simp only [Ye,YL] at hx
         obtain ⟨rfl,rfl,rfl⟩:=hx
         have hi:i≠id:=by simpa using hi
         simp only [X.toExit,Exit.inBlock,hi,if_false]
         exact hD a1 w1 g1 q1 q2 q3 q4 q5
     · rename_i r hr
       refine hP nt c1 e h x e' h' hx g a w hh he hs _ fun a1 w1 g1 q1 q2 q3 q4 q5=>?_
       have hq:=hD a1 w1 g1 q1 q2 q3 q4 q5
       cases x with
       | normal=>exact hq
       | exit i=>exact absurd hx (fun hh=>hr _ _ _ hh)
       | ret=>exact hq
   | loop c1=>
     let I:Nat->Act->World->Prop:=fun m a w=>m<=n+1/\ ∃g1 e1 h1,exec P tab m nt (.loop c1) e1 h1=some (x,e',h')/\HR g1 h1 w/\EnvR g1 e1 a/\nt<=a.tmps.size/\Done nt e' h' g1 w (Q x.toExit)
     refine ZuJ I (n:=n+1) (fun m a w hI=>?_) ⟨Yc _,g,e,h,hx,hh,he,hs,hD⟩
     obtain ⟨hm,g1,e1,h1,hx1,hh1,he1,hs1,hD1⟩:=hI
     cases m with
     | zero=>simp [exec] at hx1
     | succ m=>
       simp only [exec] at hx1
       have hPm:=ih m Zo
       split at hx1
       · rename_i e2 h2 hr
         refine hPm nt c1 e1 h1 .normal e2 h2 hr g1 a w hh1 he1 hs1 _ fun a2 w2 g2 q1 q2 q3 q4 q5=>?_
         exact ⟨m,by omega,by omega,g2,e2,h2,hx1,q3,q1,q2,hD1.next q4 q5⟩
       · rename_i r hr
         refine hPm nt c1 e1 h1 x e' h' hx1 g1 a w hh1 he1 hs1 _ fun a2 w2 g2 q1 q2 q3 q4 q5=>?_
         have hq:=hD1 a2 w2 g2 q1 q2 q3 q4 q5
         cases x with
         | normal=>exact absurd hx1 (fun hh=>hr _ _ hh)
         | exit i=>exact hq
         | ret=>exact hq
   | exit id=>
     simp only [exec,Ye,YL] at hx
     obtain ⟨rfl,rfl,rfl⟩:=hx
     exact wp_exit (hD a w g he hs hh (Le.refl g) (Grew.refl _ _))
   | ret=>
     simp only [exec,Ye,YL] at hx
     obtain ⟨rfl,rfl,rfl⟩:=hx
     exact wp_ret (hD a w g he hs hh (Le.refl g) (Grew.refl _ _))
   | scope b=>
     simp only [exec] at hx
     refine wp_scope_straight (hP nt b e h x e' h' hx g a w hh he hs _ fun a1 w1 g1 q1 q2 q3 q4 q5=>?_)
     have hq:=hD a1 w1 g1 q1 q2 q3 q4 q5
     cases x with
     | normal=>exact hq
     | exit i=>exact hq
     | ret=>exact hq
   | _=>simp [exec] at hx
def ZqV: ∀(xs:List V) (k j:Nat) (e:Env),(enter k xs e).get j=if k<=j/\j<k+xs.length then xs[j-k]? else e.get j
 | [],k,j,e=>by
   have: ¬(k<=j/\j<k+0):=by omega
   simp only [enter,List.length_nil,this,if_false]
 | x::xs,k,j,e=>by
   simp only [enter]
   rw [ZqV xs (k+1) j,T.get_set]
   by_cases h1:j=k
   · subst h1
     have h2: ¬(j+1<=j/\j<j+1+xs.length):=by omega
     rw [if_neg h2,if_pos rfl,if_pos Zs]
     simp
   · by_cases h2:k+1<=j/\j<k+1+xs.length
     · rw [if_pos h2,if_pos Ze]
       rw [show j-k=(j-(k+1))+1 by omega]
       simp
     · rw [if_neg h2,if_neg h1,if_neg Ze]
def EnvR.begin {args:List V} {vs:List Value} {n:Nat} (h:Rels g args vs):EnvR g (enter 0 args .nil) {tmps:=vs.toArray++Array.replicate (n-vs.toArray.size) undef,defers:=[]}:=by
 refine ⟨rfl,fun t v ht=>?_⟩
 obtain ⟨t,rfl⟩: ∃t₀:Nat,t₀=t:=⟨t,rfl⟩
 rw [ZqV] at ht
 obtain ⟨hl,hr⟩:=Rels.iff.1 h
 split at ht
 ·rename_i hlt
  simp only [Nat.sub_zero] at ht
  have hv:vs[t]? =some (vs[t]'(by omega)):=Ya _
  have hgd:(vs.toArray++Array.replicate (n-vs.toArray.size) undef).getD t undef=vs[t]'(by omega):=by
   simp only [Array.getD_eq_getD_getElem?]
   rw [Array.getElem?_append_left Ze]
   simp [hv]
  show Rel g v ((vs.toArray++Array.replicate (n-vs.toArray.size) undef).getD t undef)
  rw [hgd]
  exact hr t v _ ht hv
 ·rw [T.get_nil] at ht;cases ht
def ZHu (hh:HR g h w) (he:EnvR g e a): ∀{rs:List ResultVar} {vs:List V},resV P e h rs=some vs-> ∃us:List Value,Rels g vs us/\rs.length=us.length/\ ∀(j:Nat) x u,rs[j]? =some x->us[j]? =some u->(Zk0 a.tmps x).run P w= .ok u w
 | [],vs,hx=>by
   simp only [resV,Ye] at hx;subst hx
   exact ⟨[],rfl,rfl,fun j x u h=>by simp at h⟩
 | .tmp t::r,vs,hx=>by
   simp only [resV] at hx
   split at hx
   · rename_i v vs' h1 h2
     simp only [Ye] at hx;subst hx
     obtain ⟨us,q1,q2,q3⟩:=ZHu hh he h2
     refine ⟨a.tmps.getD t undef::us,⟨_,us,rfl,he.2 t v h1,q1⟩,by simp [q2],fun j x u hj hu=>?_⟩
     cases j with
     | zero=>simp only [Yi,Ye] at hj hu;subst hj;subst hu;rfl
     | succ j=>exact q3 j x u (by simpa using hj) (by simpa using hu)
   · cases hx
 | .cell p t::r,vs,hx=>by
   simp only [resV] at hx
   split at hx
   · rename_i pv h1
     split at hx
     · rename_i v vs' h2 h3
       simp only [Ye] at hx;subst hx
       obtain ⟨us,q1,q2,q3⟩:=ZHu hh he h3
       unfold ZKs at h2
       split at h2
       · rename_i b i
         split at h2
         · rename_i cs hrd
           obtain ⟨hb,hv⟩:=ZEQ (he.2 p _ h1)
           obtain ⟨vs,ty,r1,r2,r3,r4⟩:=hh.read hb hrd
           obtain ⟨u0,l1,l2⟩:=ZHL hh he r1 r4 h2
           refine ⟨u0::us,⟨_,us,rfl,l2,q1⟩,by simp [q2],fun j x u hj hu=>?_⟩
           cases j with
           | zero=>
             simp at hj hu;subst hj;subst hu
             simp only [Zk0]
             rw [hv]
             simp only [asAddr]
             rw [Sem.run_bind,Sem.run_pure,Result.andThen_ok]
             exact l1
           | succ j=>exact q3 j x u (by simpa using hj) (by simpa using hu)
         · cases h2
       · cases h2
     · cases hx
   · cases hx
theorem ZKk {vs:List V} {us:List Value} (h:Rels g vs us):Rel g (retV vs) (Am.retV us):=by
 match vs,us,h with
 | [],us,h=>have:us=[]:=h;subst this;simp only [retV,Am.retV,Rel];exact ⟨[],rfl,rfl⟩
 | [v],us,h=>
   simp only [Rels] at h
   obtain ⟨u,r,rfl,h1,h2⟩:=h
   have:r=[]:=h2
   subst this
   exact h1
 | v::v'::vs,us,h=>
   have h0:=h
   simp only [Rels] at h
   obtain ⟨u,r,rfl,h1,u',r',rfl,h2,h3⟩:=h
   simp only [retV,Am.retV,Rel]
   exact ⟨_,rfl,h0⟩
theorem Zk3 {tab:Nat->Option Fn} (hT:ZIv P tab) (n:Nat) (hE:Zv5 P tab n):Zcv P (Zja P tab (exec P tab n)):=by
 intro f args h v h' hx
 have hTf:=hT f
 unfold Zja at hx
 split at hx
 ·rename_i fn hfn
  rw [hfn] at hTf
  have hfn:P.funcs[f]? =some fn:=hTf
  split at hx
  ·rename_i c hc
   split at hx
   ·cases hx
   ·rename_i hcond
    simp only [Bool.or_eq_true,beq_iff_eq,decide_eq_true_eq,not_or,Nat.not_lt] at hcond
    obtain ⟨hname,hlen⟩:=hcond
    refine .inl ⟨by simp only [Zhz,hfn,hc,Option.isSome_some,Bool.and_true,bne_iff_ne];exact hname,fun g w vs hh hr=>?_⟩
    obtain ⟨x,e,h2,hxe,hnx,hres⟩: ∃x e h2,exec P tab n fn.ntmps c (enter 0 args .nil) h=some (x,e,h2)/\(x= .normal∨x= .ret)/\(match resV P e h2 fn.results.toList with|some vs=>some (retV vs,h2)|none=>none)=some (v,h'):=by
     split at hx
     ·cases hx
     ·rename_i x e h2 hnx he
      refine ⟨x,e,h2,he,?_,hx⟩
      cases x with
      | normal=>exact .inl rfl
      | ret=>exact .inr rfl
      | exit i=>exact absurd rfl (hnx i)
     ·cases hx
    split at hres
    ·rename_i rs hrs
     simp only [Ye,YL] at hres
     obtain ⟨rfl,rfl⟩:=hres
     have hl:=hr.len
     refine calls_of_wp hfn hc (hE fn.ntmps c _ _ x e _ hxe g _ w hh (EnvR.begin (n:=fn.ntmps) hr) Ze _ fun a' w' g' q1 q2 q3 q4 q5=>?_)
     obtain ⟨us,u1,u2,u3⟩:=ZHu (P:=P) q3 q1 hrs
     have hpost:a'.defers=[]/\ ∃v,(results fn a'.tmps).run P w'= .ok v w'/\(∃u g2,Ending.returned v= .returned u/\Rel g2 (retV rs) u/\HR g2 h2 w'/\Le g g2/\Grew g w g2 w'):=
      ⟨q1.1,_,Zra (by simpa using u2) (fun j y u hj hu=>u3 j y u (by simpa using hj) hu),_,g',rfl,ZKk u1,q3,q4,q5⟩
     rcases hnx with rfl|rfl<;>exact hpost
    ·cases hres
  ·cases hx
 ·rename_i p hp
  rw [hp] at hTf
  exact (hTf _ _ _ _ hx).1
 ·rename_i p hp
  rw [hp] at hTf
  simp only [YF,YL] at hx
  obtain ⟨u,hu,rfl,rfl⟩:=hx
  exact hTf _ _ _ hu
 ·cases hx
def ZlN {tab:Nat->Option Fn} (hT:ZIv P tab) (n:Nat):Zcv P (call P tab n):=
 Zk3 hT n (Zs2 (ZIq hT) (fun k hk=>Zk3 hT k hk) n n (Yc _))
end Go.Cm
end
section
namespace Go.Cm
variable {P:Program}
def ZI2 (w:World):G:=⟨fun _=>False,fun _=>(0,0),fun _=>0,w.heap.size,0⟩
def ZHZ:H:=⟨0,.nil,.nil,.nil⟩
def start (w:World):HR (ZI2 w) ZHZ w:=
 ⟨Yc _,fun _ h=>h.elim,rfl,fun k m h=>by simp [ZHZ,T.get] at h,fun _ _ _ _ _ h=>h.elim,fun _ h=>h.elim,fun _ _ h=>h.elim,fun k m h=>(by simp [ZHZ,T.get] at h),fun _ _ _ h=>h.elim,fun _ _ _ _ _ _ _ _ _ _ h=>h.2.2.elim,fun _ _ _ _ _ _ _ _ h=>h.2.2.elim,fun _ _ _ _ _ _ _ h=>h.elim,fun _ _ _ h=>h.elim⟩
def gives (P:Program) (tab:Nat->Option Fn) (n f:Nat) (b:Bool):Bool:=match call P tab n f [] ZHZ with
 | some (.bool c,_)=>c==b
 | _=>false
def ZGA {tab:Nat->Option Fn} (hT:ZIv P tab) {n f:Nat} {b:Bool} (hf:Am.Zhz P f=true) (hx:gives P tab n f b=true):Am.Zhz P f=true/\ ∀w:World,Calls P f #[] w fun r w'=>r= .returned (.bool b)/\RowKit.Below w.heap.size w w':=by
 unfold gives at hx
 split at hx
 ·rename_i c h' hc
  have hb:c=b:=by simpa using hx
  subst hb
  obtain ⟨h1,h2⟩:Am.Zhz P f=true/\_:=(ZlN hT n f [] ZHZ _ _ hc).resolve_right fun hr=>by
   obtain ⟨u,r1,_⟩:=hr.2 (ZI2 default) default [] rfl
   rw [Am.Zpc hf] at r1
   cases r1
  refine ⟨h1,fun w=>((h2 (ZI2 w) w [] (start w) rfl).mono ?_)⟩
  rintro r w' ⟨u,g',rfl,hr,_,_,hg⟩
  exact ⟨by rw [ZD9 hr],hg.os,hg.tape,hg.output,hg.size,fun k hk=>hg.old k hk fun b hb=>hb.elim⟩
 ·cases hx
def closed_prim [Am.WI] {tab:Nat->Option Fn} (hT:ZIv P tab) {n f:Nat} {b:Bool} (hf:Am.Zhz P f=true) (hx:gives P tab n f b=true):
  Am.Zf2 P f fun args os=>if args.isEmpty && os.isEmpty then some ([.one (.p (.bool b))],[]) else none:=by
 obtain ⟨h1,h2⟩:=ZGA hT hf hx
 intro args os rs os' h
 simp only at h
 split at h
 ·rename_i hc
  simp only [Yb,List.isEmpty_iff] at hc
  obtain ⟨rfl,rfl⟩:=hc
  simp only [Ye,YL] at h
  obtain ⟨rfl,rfl⟩:=h
  refine ⟨h1,fun g w vs hp _ _ _ _ hf hwi hT'=>?_⟩
  have hvs:vs=[]:=by
   have:=hp.1
   simpa using this
  subst hvs
  refine (h2 w).mono ?_
  rintro r w' ⟨rfl,hg⟩
  refine ⟨.bool b,g,rfl,?_,rfl,rfl,fun k hk=>hf k (Yy hg.size hk),?_,fun i cs hi=>by simp at hi⟩
  ·exact ⟨hg.os,hg.tape,hg.output,hg.size,fun k o hk=>⟨o,by rw [hg.block k (Am.ZaB hk)];exact hk,.refl _ _⟩,fun k hk=>Yc _,fun k hk ho _=>⟨rfl,ho⟩,fun k hk _ _=>hg.block k hk⟩
  ·exact Am.RepP.bool b
 ·cases h
end Go.Cm
end
