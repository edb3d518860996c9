/- Part. -/
import Derived.Test.YtmofclmogldnjaaGreatDoorCbh
import Derived.Test.YtmofclmogldnjaaGreatDoorCbl
import Derived.Scope
import Derived.OrdersIn
import Derived.RangeFuncRecord
set_option maxRecDepth 999999
set_option maxHeartbeats 0
set_option linter.all false
section
namespace Go.Cm
open Go.Am (Zaw Zhz ZjZ ZuJ Zk0 Zra)
attribute [local instance] wi0
variable {P:Program} {R:Option Nat} {F:ZaQ} {g:G} {e e':Env} {a:Act} {w:World} {h h':H} {ov:Option V} {o:Oper}
def FR (R:Option Nat):Fence:={Fence.wide with round:=R}
def ZJY {n f:Nat} {args:Array Value} {w:World} {Q:Ending->World->Prop}:CallsIn (FR R) n P f args w Q↔Calls P f args w Q:=callsIn_wide
def ZML {nx:Next} {w':World} (h:(execOp a.eval o).run P w= .ok nx w') (hn:(∃v,nx= .value v)∨nx= .skip):(o.semAt R a.eval).run P w= .ok nx w':=by
 by_cases hd: ∃c,o.op= .defer c
 · obtain ⟨c,hc⟩:=hd;exfalso;simp only [execOp,hc,qD] at h;cases hr:(resolve a.eval c o.type).run P w with
   | ok d w1=>
     rw [hr] at h;simp only [qA,qI,Result.ok.injEq] at h;rcases hn with ⟨v,rfl⟩|rfl
     · cases h.1
     · cases h.1
   | halt x w1=>rw [hr] at h;cases h
 · rw [Oper.semAt_eq R a.eval o fun c hc=>hd ⟨c,hc⟩];exact h
theorem ZJA {nx:Next} {w':World} {n:Nat} {K:Act->World->Prop} {Q:Exit->Act->World->Prop} (h:(execOp a.eval o).run P w= .ok nx w') (hn:(∃v,nx= .value v)∨nx= .skip)
  (hk:K (a.put o.dst (match nx with| .value v=>v|_=>undef)) w'):o.wpIn (FR R) n P a w K Q:=by
 refine ⟨fun _ _=>trivial,?_⟩;show o.uponIn (FR R) n P a K Q ((o.semAt R a.eval).run P w);rw [ZML h hn];rcases hn with ⟨v,rfl⟩|rfl<;>exact hk
def ZMS {w':World} {n:Nat} {K:Act->World->Prop} {Q:Exit->Act->World->Prop} (h:(execOp a.eval o).run P w= .ok .skip w') (hk:K (a.put o.dst undef) w'):o.wpIn (FR R) n P a w K Q:=ZJA h (.inr rfl) hk
def ZIT (P:Program) (f:Nat) (args:List V) (h:H) (v:V) (h':H):Prop:=
 (Zhz P f=true/\ ∀(g:G) (w:World) (vs:List Value),HR g h w->Rels g args vs->
  Calls P f vs.toArray w fun r w'=> ∃u g',r= .returned u/\Rel g' v u/\HR g' h' w'/\Le g g'/\Grew g w g' w')∨
 (h'=h/\ ∀(g:G) (w:World) (vs:List Value),Rels g args vs-> ∃u,(callFunc f vs.toArray).run P w= .ok (.value u) w/\Rel g v u)
def ZMj (P:Program) (l:Nat) (args:List V) (h:H) (v:V) (h':H):Prop:=
 ∀(g:G) (w:World) (vs:List Value),HR g h w->g.ex l->Rels g args vs-> ∃r,w.heap[(g.β l).1]? =some (.loop r)/\vs.length=r.params.size/\
  RoundIn Fence.wide 0 P (g.β l).1 r.fn ((r.params.zip vs.toArray).foldl (fun tmps (t,a)=>tmps.setIfInBounds t a) r.tmps) r.assign r.body w fun e w'=> ∃u g',e= .returned u/\Rel g' v u/\HR g' h' w'/\Le g g'/\Grew g w g' w'
def Zcv (P:Program) (F:ZaQ):Prop:= ∀(f:Nat) (args:List V) (h:H) (v:V) (h':H),F f args h=some (v,h')->(Nat.blt f YB=true->ZIT P f args h v h')/\ ∀l,f=YB+l->ZMj P l args h v h'
def OpWp (P:Program) (o:Oper) (a:Act) (w:World) (g:G) (ov:Option V) (h':H):Prop:=
 ∀(R:Option Nat) (K:Act->World->Prop) (Q:Exit->Act->World->Prop),(∀v w' g',Rel g' (ov.getD (.tup [])) v->HR g' h' w'->Le g g'->Grew g w g' w'->K (a.put o.dst v) w')->o.wpIn (FR R) 0 P a w K Q
def OpOK.wp (h:OpOK P o a w g ov h'):OpWp P o a w g ov h':=by
 intro R K Q hK;obtain ⟨nx,v,w',g',hr,hv,h1,h2,h3,h4⟩:=h;have:=hK v w' g' h1 h2 h3 h4;rcases hv with rfl|⟨rfl,rfl⟩
 ·exact ZJA hr (.inl ⟨_,rfl⟩) this
 ·exact ZJA hr (.inr rfl) this
def Zye (hF:Zcv P F) (hh:HR g h w) (he:EnvR g e a) {c:Call} (ho:o.op= .call c) (hx:opV P F e h (.call c)=some (ov,h')):OpWp P o a w g ov h':=by
 simp only [opV] at hx;split at hx
 ·rename_i f args hc hargs;split at hx
  ·rename_i fv hf;simp only [YG,YM] at hx;obtain ⟨⟨z,h1⟩,hz,rfl,rfl⟩:=hx;unfold ZN5 at hz;split at hz
   ·rename_i f' first caps
    have hfr:=ZG6 he hf;simp only [Rel] at hfr;obtain ⟨fs,cs,hv,h1,h2⟩:=hfr;have heq:fs.toArray++c.args.map a.eval++cs.toArray=(fs++c.args.toList.map a.eval++cs).toArray:=by
     apply Array.toList_inj.1;simp
    have hrs:=(h1.append (ZI5 he hargs)).append h2;cases hlt:Nat.blt f' YB with
    | false=>rw [hlt] at hz;cases hz
    | true=>
    rw [hlt] at hz;simp only [cond_true] at hz;rcases (hF _ _ _ _ _ hz).1 hlt with ⟨q1,q2⟩|⟨rfl,q2⟩
    ·have hcall:=q2 g w _ hh hrs;intro R K Q hK;refine ⟨fun _ _=>trivial,?_⟩;show o.uponIn (FR R) 0 P a K Q ((o.semAt R a.eval).run P w);rw [Oper.semAt_eq R a.eval o (fun c hd=>by rw [ho] at hd;cases hd),ZjZ ho hc hv q1,Oper.uponIn_enter];rw [heq];refine ⟨fun hd=>(by cases hd),ZJY.2 (hcall.mono ?_)⟩;rintro r w' ⟨u,g',rfl,r1,r2,r3,r4⟩;exact hK u w' g' r1 r2 r3 r4
    ·obtain ⟨u,r1,r2⟩:=q2 g w _ hrs;refine OpOK.wp ⟨.value u,u,w,g,?_,.inl rfl,r2,hh,Le.refl g,Grew.refl _ _⟩;simp only [execOp,ho,resolve,hc,hv,Deferred.ofValue];rw [qD];show ((callFunc f' (fs.toArray++c.args.map a.eval++cs.toArray)).run P w)=_;rw [heq];exact r1
   ·rename_i l;have hfr:=ZG6 he hf;simp only [Rel] at hfr;obtain ⟨hl,hv⟩:=hfr;obtain ⟨r,hr,hn,hround⟩:=(hF _ _ _ _ _ hz).2 l rfl g w _ hh hl (ZI5 he hargs);intro R K Q hK;refine ⟨fun _ _=>trivial,?_⟩;show o.uponIn (FR R) 0 P a K Q ((o.semAt R a.eval).run P w);have hsz:(c.args.map a.eval).size=r.params.size:=by simpa using hn
    have hrun:(execOp a.eval o).run P w= .ok (.round (g.β l).1 r.fn ((r.params.zip (c.args.map a.eval)).foldl (fun tmps (t,a)=>tmps.setIfInBounds t a) r.tmps) r.assign r.body) w:=by
     simp only [execOp,ho,resolve,hc,hv,Deferred.ofValue];rw [qD];show (Instr.yield (g.β l).1 (#[]++c.args.map a.eval)).run P w=_;rw [Array.empty_append];exact run_yield hr hsz
    rw [Oper.semAt_eq R a.eval o (fun c hd=>by rw [ho] at hd;cases hd),hrun,Oper.uponIn_round];refine ⟨fun hd=>(by cases hd),?_⟩;have heq:c.args.map a.eval=(c.args.toList.map a.eval).toArray:=by
     apply Array.toList_inj.1;simp
    rw [heq];refine RoundIn.mono (F:=FR R) (n:=0) hround ?_;rintro e w' ⟨u,g',rfl,r1,r2,r3,r4⟩;exact hK u w' g' r1 r2 r3 r4
   ·cases hz
  ·cases hx
 ·rename_i b args hc hargs;simp only [YG,YM] at hx;obtain ⟨⟨z,h1⟩,hz,rfl,rfl⟩:=hx;exact (ZLb hh he ho hc hargs hz).wp
 ·cases hx
def Zyz (hF:Zcv P F) (hh:HR g h w) (he:EnvR g e a) (hx:opV P F e h o.op=some (ov,h')):OpWp P o a w g ov h':=by
 generalize hop:o.op=op at hx;cases op with
 | move x=>exact (ZMl hh he (.inl hop) hx).wp
 | assign x=>exact (ZMl hh he (.inr hop) hx).wp
 | pick c x y=>exact (Zyw hh he hop hx).wp
 | alloc el=>exact (ZM7 hh he (by rw [hop];exact hx)).wp
 | box el x=>exact (ZM7 hh he (by rw [hop];exact hx)).wp
 | build t ps=>exact (ZwT hh he hop hx).wp
 | buildSlice t n ps=>exact (ZM7 hh he (by rw [hop];exact hx)).wp
 | load t x=>exact (Zyq hh he hop hx).wp
 | store t x y=>exact (ZMV hh he hop hx).wp
 | nilCheck x=>exact (Zrd hh he hop hx).wp
 | binOp op t x y t'=>exact (ZAE hh he hop hx).wp
 | unOp op t x=>exact (ZOr hh he hop hx).wp
 | convert s d x=>exact (ZLc hh he hop hx).wp
 | makeFunc f x y=>
   cases f with
   | func f=>exact (ZrP hh he hop hx).wp
   | _=>simp [opV] at hx
 | makeMap t r=>exact (ZM7 hh he (by rw [hop];exact hx)).wp
 | makeSlice t l c=>exact (ZM7 hh he (by rw [hop];exact hx)).wp
 | slice t x lo hi mx=>exact (ZwP hh he hop hx).wp
 | fieldAddr t x f=>exact (Zpb hh he hop hx).wp
 | field t x f=>exact (ZMF hh he hop hx).wp
 | indexAddr t x i=>exact (Zo6 hh he hop hx).wp
 | index t x i=>exact (ZMO hh he hop hx).wp
 | lookup t x i ok=>exact (ZtP hh he hop hx).wp
 | mapUpdate t m k x=>exact (Zug hh he (.inl hop) hx).wp
 | insert t m k x=>exact (Zug (F:=F) hh he (.inr hop) hx).wp
 | extract t i=>exact (Zr8 hh he hop hx).wp
 | call c=>exact Zye hF hh he hop hx
 | _=>simp [opV] at hx
theorem ZIn {ops:Array Oper} (he:EnvR g e a) {b:Bool} (hg:goes ops o e=some b):Region.wanted o (yielded ops a.tmps)=b:=by
 unfold goes at hg;split at hg
 ·rename_i hn;cases hg;simp [Region.wanted,hn]
 ·rename_i j want hn;split at hg
  ·rename_i oj hoj;split at hg
   ·rename_i t hdst;obtain ⟨t,rfl⟩: ∃t₀:Nat,t₀=t:=⟨t,rfl⟩
    have hw: ∀v,a.tmps.getD t undef=v->Region.wanted o (yielded ops a.tmps)=((match v with| .bool b=>some b|_=>none)==some want):=fun v hv=>by
     simp only [Region.wanted,hn,yielded,hoj,hdst,jX];congr 1;by_cases hsz:t<a.tmps.size
     ·have:a.tmps[t]? =some v:=by rw [<-hv];simp [hsz]
      rw [this];cases v<;>rfl
     ·have h1:a.tmps[t]? =none:=jK Zo;have:v=undef:=by rw [<-hv];simp [hsz]
      rw [h1,this];rfl
    split at hg
    ·rename_i c hc;cases hg;rw [hw _ (ZHH (he.2 t _ hc))];cases c<;>cases want<;>rfl
    ·rename_i hc;cases hg;have:=he.2 t _ hc;simp only [Rel] at this;obtain ⟨vs,hv,_⟩:=this;rw [hw _ hv];rfl
    ·cases hg
   ·cases hg
  ·cases hg
def ZyK (hF:Zcv P F) (hh:HR g h w) (he:EnvR g e a) {nt:Nat} (hs:nt<=a.tmps.size) {ops:Array Oper} {i:Nat} (hi:ops[i]? =some o) (hx:ZJc P F nt ops o e h=some (e',h')) {K:Act->World->Prop} {Q:Exit->Act->World->Prop}
  (hK: ∀v w' g',EnvR g' e' (a.put o.dst v)->HR g' h' w'->Le g g'->Grew g w g' w'->K (a.put o.dst v) w'):wpOpIn (FR R) 0 P ops Q i K a w:=by
 unfold wpOpIn;simp only [hi];unfold ZJc at hx;split at hx
 ·rename_i hg;rw [ZIn he hg,if_pos rfl];split at hx
  ·rename_i v h1 ho;simp only [YG,YM] at hx;obtain ⟨e1,hp,rfl,rfl⟩:=hx;refine Zyz hF hh he ho R K Q fun u w' g' r1 r2 r3 r4=>?_;exact hK u w' g' ((he.mono r3 r3.dfs).put hs hp r1) r2 r3 r4
  ·cases hx
 ·rename_i hg;rw [ZIn he hg,if_neg Zs];simp only [YG,YM] at hx;obtain ⟨e1,hp,rfl,rfl⟩:=hx;exact ⟨fun _ _=>trivial,hK undef w g (he.put hs hp (by simp only [Option.getD_none,Rel];exact ⟨[],rfl,rfl⟩)) hh (Le.refl g) (Grew.refl _ _)⟩
 ·cases hx
def Done (nt:Nat) (e':Env) (h':H) (g:G) (w:World) (Q:Act->World->Prop):Prop:=
 ∀a' w' g',EnvR g' e' a'->nt<=a'.tmps.size->HR g' h' w'->Le g g'->Grew g w g' w'->Q a' w'
def Done.next {nt:Nat} {Q:Act->World->Prop} {g':G} {w':World} (hd:Done nt e' h' g w Q) (hl:Le g g') (hg:Grew g w g' w'):Done nt e' h' g' w' Q:=
 fun a2 w2 g2 h1 h2 h3 h4 h5=>hd a2 w2 g2 h1 h2 h3 (hl.trans h4) (hg.trans h5)
def ZpG (hF:Zcv P F) {nt:Nat} {ops:Array Oper} {Q:Exit->Act->World->Prop}: ∀(n k:Nat) {g:G} {e:Env} {a:Act} {w:World} {h:H},k+n=ops.size->HR g h w->EnvR g e a->nt<=a.tmps.size->
   runV P F nt ops (ops.toList.drop k) e h=some (e',h')->Done nt e' h' g w (Q .normal)->wpOpsIn (FR R) 0 P ops Q (List.range' k n) a w:=by
 intro n
 induction n with
 | zero=>
   intro k g e a w h hk hh he hs hx hD;rw [jQ Ze] at hx;simp only [runV,Ye,YM] at hx;obtain ⟨rfl,rfl⟩:=hx;exact hD a w g he hs hh (Le.refl g) (Grew.refl _ _)
 | succ n ih=>
   intro k g e a w h hk hh he hs hx hD;have hkl:k<ops.size:=by omega
   rw [List.drop_eq_getElem_cons (by simpa using hkl)] at hx;rw [List.range'_succ,wpOpsIn_cons];simp only [runV] at hx;split at hx
   · rename_i e1 h1 hst;refine ZyK hF hh he hs (i:=k) (by simp [hkl]) hst fun v w' g' r1 r2 r3 r4=>?_;exact ih (k+1) Zo r2 r1 (by rw [Am.Zd6];exact hs) hx (hD.next r3 r4)
   · cases hx
end Go.Cm
end
section
namespace Go.Cm
attribute [local instance] wi0
variable {P:Program} {R:Option Nat} {F:ZaQ} {ops:Array Oper} {nt:Nat} {e e':Env} {h h':H} {g g0:G} {a:Act} {w w0:World}
theorem ZJ8 (op:Op):ZIo op=0∨ZIo op=1∨ZIo op=2∨ZIo op=3:=by
 cases op with
 | call c=>
   simp only [ZIo];split<;>simp
 | _=>simp [ZIo]
theorem ZMZ {i:Nat} {o:Oper} (ho:ops[i]? =some o):isE ops i=true↔ZIo o.op=3:=by
 unfold isE;rw [ho];simp
theorem ZKp {α:Type} {q:α->Bool}: ∀{l:List α} {p:Nat} {i:α},l[p]? =some i->q i=true->(l.filter q)[((l.take p).filter q).length]? =some i
 | x::l,0,i,h,hq=>by
   simp only [kF,qB] at h;subst h;simp [jZ,hq]
 | x::l,p+1,i,h,hq=>by
   have ih:=ZKp (l:=l) (p:=p) (by simpa using h) hq;simp only [List.take_succ_cons,jZ];by_cases hx:q x=true
   · rw [if_pos hx,if_pos hx];simpa using ih
   · rw [if_neg hx,if_neg hx];exact ih
 | [],p,i,h,_=>by simp at h
theorem ZMs (hh:HR g h w):g.up h.next=g:=by
 have:=hh.top;unfold G.up;rw [<-this]
section
variable {s:List Snap} {st:Nat->Env×H} (hp:Pl ops) (ht:Tr P F nt ops (sch ops) s st)
include ht
theorem ZKX {a₀:Nat} (hh:HR g (st a₀).2 w) {b:Nat} (hab:a₀<=b) (hb:b<=(sch ops).length) (hn: ∀r i,a₀<=r->r<b->(sch ops)[r]? =some i->isE ops i=false):HR (g.up (st b).2.next) (st b).2 w:=by
 induction b with
 | zero=>
   obtain rfl:a₀=0:=by omega
   rw [ZMs hh];exact hh
 | succ b ih=>
   rcases j9 a₀ (b+1) with hlt|hge
   · have hr:=ih Zo Zo fun r i h1 h2=>hn r i h1 Zo;have hi:(sch ops)[b]? =some ((sch ops)[b]'(by omega)):=qJ _;obtain ⟨_,o,ho,hst⟩:=ht.at_ b _ hi;have hE:=hn b _ Zo (y7 _) hi;obtain ⟨bb,ov,_,h1,h2,_⟩:=ZHM hst;have same:(st (b+1)).2=(st b).2->HR (g.up (st (b+1)).2.next) (st (b+1)).2 w:=fun hs=>by rw [hs];exact hr
     cases bb with
     | false=>exact same (h2 rfl).2
     | true=>
       have h1:=h1 rfl;rcases ZJ8 o.op with hc|hc|hc|hc
       · exact same (ZKe hc h1).1
       · exact same (ZKV hc h1)
       · rw [ZM3 hc] at h1;simp only [mkR,qC,qF] at h1;obtain ⟨m,_,_,hm⟩:=h1;rw [<-hm];exact hr.ghost _ _
       · have:=(ZMZ ho).2 hc;rw [this] at hE;cases hE
   · obtain rfl:a₀=b+1:=by omega
     rw [ZMs hh];exact hh
end
def cE (ops:Array Oper) (L:Nat->Bool):Nat:=((effs ops).filter L).length
structure Inv (P:Program) (F:ZaQ) (nt:Nat) (ops:Array Oper) (s:List Snap) (st:Nat->Env×H) (e e':Env) (h':H) (g0:G) (w0:World) (L:Nat->Bool) (E:Env) (g:G) (a:Act) (w:World):Prop where
 hr: ∃hc,(ZHg ops s h')[cE ops L]? =some hc/\HR g hc w
 env:EnvR g E a
 ep1: ∀(t j:Nat),ZHi ops j=some t->L j=true->E.get t=e'.get t
 ep2: ∀t:Nat,(∀j,ZHi ops j=some t->L j=false)->E.get t=e.get t
 sz:nt<=a.tmps.size
 le:Le g0 g
 gr:Grew g0 w0 g w
 un: ∀(p i:Nat) (o:Oper),(sch ops)[p]? =some i->ops[i]? =some o->ZIo o.op=2->L i=false->goes ops o (st p).1=some true-> ¬g.ex (st p).2.next
section
variable {s:List Snap} {st:Nat->Env×H} (hp:Pl ops) (ht:Tr P F nt ops (sch ops) s st) (hz:st 0=(e,h)) (hl:st (sch ops).length=(e',h'))
variable {L:Nat->Bool} {E:Env}
include hp ht hz hl
theorem ZLy {p i t:Nat} (hi:(sch ops)[p]? =some i) (hd:ZHi ops i=some t) {b:Nat} (hb:p<b) (hbl:b<=(sch ops).length):(st b).1.get t=(st (p+1)).1.get t:=
 ht.keep Zo hbl fun r k h1 h2 hk hdk=>by
  have:=hp.ds k i t hdk hd;subst this;have:=hp.uniq hk hi;omega
theorem ZJn {p i t j:Nat} (hj:(sch ops)[j]? =some i) (hd:ZHi ops i=some t) (hpj:p<=j):(st p).1.get t=e.get t:=by
 have:=ht.keep (t:=t) (a:=0) (b:=p) (jW _) (by have:=Am.Zaq hj;omega) fun r k h1 h2 hk hdk=>by
  have:=hp.ds k i t hdk hd;subst this;have:=hp.uniq hk hj;omega
 rw [this,hz]
theorem ZLn {p t:Nat} (hn: ∀i,ZHi ops i≠some t) (hpl:p<=(sch ops).length):(st p).1.get t=e.get t:=by
 have:=ht.keep (t:=t) (a:=0) (b:=p) (jW _) hpl fun r k h1 h2 hk=>hn k;rw [this,hz]
theorem ZMv (inv:Inv P F nt ops s st e e' h' g0 w0 L E g a w) (hcl:Cl ops L) {p i:Nat} {o:Oper} (hpos:(sch ops)[p]? =some i) (ho:ops[i]? =some o) (hLi:L i=false) (hrd: ∀ed∈o.after,Region.binds .any ed=true->L ed.on=true):
   ∀t∈ZHX ops o,E.get t=(st p).1.get t:=by
 intro t htr;have hpl:=Am.Zaq hpos;by_cases hw: ∃j,ZHi ops j=some t
 · obtain ⟨j,hj⟩:=hw;have hjl:=ZIi hj;obtain ⟨q,hq⟩:=hp.pos hjl;by_cases hji:j=i
   · subst hji;rw [inv.ep2 t fun k hk=>by rw [hp.ds k j t hk hj];exact hLi];exact (ZJn hp ht hz hl hpos hj (qG _)).symm
   · have hok:=hp.rd i (Array.getElem?_eq_some_iff.1 ho).1;unfold ZKl at hok;rw [ho] at hok;have:=List.all_eq_true.1 hok j (List.mem_range.2 hjl);simp only [hj,qL,beq_iff_eq,j0] at this;rcases this with h0|(h0|h0)|h0
     · exact absurd h0 hji
     · rw [jJ] at h0;exact absurd (List.elem_eq_true_of_mem htr) h0
     · have hLj:=ZG9 hp hcl i o ho hrd j h0;obtain ⟨q',q1,q2⟩:=hp.before hpos h0;have hqq:=hp.uniq hq q2;subst hqq;rw [inv.ep1 t j hj hLj,ZLy hp ht hz hl hq hj q1 Zo];have:=ZLy hp ht hz hl hq hj (b:=(sch ops).length) Zo (qG _);rw [hl] at this;exact this
     · have hoj:ops[j]? =some (ops[j]'hjl):=qN _;have hLj:L j=false:=by
         cases hLj:L j with
         | false=>rfl
         | true=>
           have:=ZG9 hp hcl j _ hoj (fun ed h1 h2=>hcl j _ hoj hLj ed h1 h2) i h0;rw [hLi] at this;cases this
       obtain ⟨q',q1,q2⟩:=hp.before hq h0;have hqq:=hp.uniq hpos q2;subst hqq;rw [inv.ep2 t fun k hk=>by rw [hp.ds k j t hk hj];exact hLj];exact (ZJn hp ht hz hl hq hj (Nat.le_of_lt q1)).symm
 · have hn: ∀j,ZHi ops j≠some t:=fun j hj=>hw ⟨j,hj⟩;rw [inv.ep2 t fun j hj=>absurd hj (hn j)];exact (ZLn hp ht hz hl hn Zo).symm
theorem ZKd (hcl:Cl ops L) {i:Nat} {o:Oper} (ho:ops[i]? =some o) (hLi:L i=false) (hrd: ∀ed∈o.after,Region.binds .any ed=true->L ed.on=true):loOf ops i<=cE ops L/\cE ops L<=hiOf ops i:=by
 refine ⟨ZJh fun k _ hk=>ZG9 hp hcl i o ho hrd k hk,ZJh fun k hk hLk=>?_⟩;cases hb:(anc ops k).testBit i with
 | false=>rfl
 | true=>
   have hkl:k<ops.size:=by
     have:=(List.mem_filter.1 hk).1;simpa using this
   have hok:ops[k]? =some (ops[k]'hkl):=qN _;have:=ZG9 hp hcl k _ hok (fun ed h1 h2=>hcl k _ hok hLk ed h1 h2) i hb;rw [hLi] at this;cases this
theorem ZKc (hcl:Cl ops L) {i c:Nat} {o:Oper} (ho:ops[i]? =some o) (hc:(effs ops)[c]? =some i) (hLi:L i=false) (hrd: ∀ed∈o.after,Region.binds .any ed=true->L ed.on=true):
  cE ops L=c/\cE ops (fun k=>L k||k==i)=c+1:=by
 have hcl':=Am.Zaq hc;have hnod: ∀k,(effs ops)[k]? =some i->k=c:=fun k hk=>by
  rcases yO k c with h1|h1|h1
  ·have:=hp.ef c k i i h1 hc hk;have:=ZG9 hp hcl i o ho hrd i this;rw [hLi] at this;cases this
  ·exact h1
  ·have:=hp.ef k c i i h1 hk hc;have:=ZG9 hp hcl i o ho hrd i this;rw [hLi] at this;cases this
 have key: ∀k x,(effs ops)[k]? =some x->(L x=true↔k<c):=fun k x hx=>by
  constructor
  ·intro hLx;rcases yO k c with h1|h1|h1
   ·exact h1
   ·subst h1;rw [hc,qB] at hx;subst hx;rw [hLi] at hLx;cases hLx
   ·have hb:=hp.ef k c x i h1 hx hc;have hxl:x<ops.size:=by
     have:=(List.mem_filter.1 (yU hx)).1;simpa using this
    have hox:ops[x]? =some (ops[x]'hxl):=qN _;have:=ZG9 hp hcl x _ hox (fun ed h1 h2=>hcl x _ hox hLx ed h1 h2) i hb;rw [hLi] at this;cases this
  ·intro hk;exact ZG9 hp hcl i o ho hrd x (hp.ef c k i x hk hc hx)
 refine ⟨ZHG Zo key,ZHG Zo fun k x hx=>?_⟩;simp only [qL,beq_iff_eq,key k x hx];constructor
 ·rintro (h1|rfl)
  ·omega
  ·have:=hnod k hx;omega
 ·intro h1;rcases j9 k c with h2|h2
  ·exact .inl h2
  ·obtain rfl:k=c:=by omega
   rw [hc,qB] at hx;exact .inr hx.symm
theorem ZIK {i:Nat} (hE:isE ops i=false):cE ops (fun k=>L k||k==i)=cE ops L:=by
 unfold cE;congr 1;refine List.filter_congr fun k hk=>?_;have:=(List.mem_filter.1 hk).2;have hne:(k==i)=false:=by
  rw [beq_eq_false_iff_ne];rintro rfl;rw [hE] at this;cases this
 rw [hne,jF]
theorem ZMi {p i:Nat} (hpos:(sch ops)[p]? =some i) (hE:isE ops i=true): ∃c,(effs ops)[c]? =some i/\(ZHg ops s h')[c]? =some (st p).2/\
  ∃q,p+1<=q/\q<=(sch ops).length/\(ZHg ops s h')[c+1]? =some (st q).2/\ ∀r k,p+1<=r->r<q->(sch ops)[r]? =some k->isE ops k=false:=by
 have hpl:=Am.Zaq hpos;refine ⟨cntE ops (sch ops) p,?_,?_,?_⟩
 ·have:=ZKp hpos hE;rw [hp.fi] at this;exact this
 ·obtain ⟨q,q1,q2,q3,q4,_⟩:=ht.heap (h':=h') (by rw [hl]) ((sch ops).length-p) p Zo;have hq:q=p:=by
   rcases j9 p q with h1|h1
   ·have:=q4 p i (qG _) h1 hpos;rw [hE] at this;cases this
   ·omega
  subst hq;have:=ht.heaps (h':=h') q Zo 0;rw [jL] at this;rw [this];exact q3
 ·obtain ⟨q,q1,q2,q3,q4,_⟩:=ht.heap (h':=h') (by rw [hl]) ((sch ops).length-(p+1)) (p+1) Zo;refine ⟨q,q1,q2,?_,q4⟩;have hc:cntE ops (sch ops) (p+1)=cntE ops (sch ops) p+1:=by
   unfold cntE;have he:(sch ops)[p]'hpl=i:=by rw [qJ hpl,qB] at hpos;exact hpos
   rw [List.take_succ_eq_append_getElem hpl,List.filter_append,jS,he];simp [jZ,hE]
  have:=ht.heaps (h':=h') (p+1) Zo 0;rw [jL,hc] at this;rw [this];exact q3
theorem ZIz (inv:Inv P F nt ops s st e e' h' g0 w0 L E g a w) {p i:Nat} {o:Oper} (hpos:(sch ops)[p]? =some i) (ho:ops[i]? =some o) {E1:Env} {ov:Option V} (hput:putE nt E o.dst ov=some E1) (hval: ∀t:Nat,o.dst=some t->e'.get t=some (ov.getD (.tup [])))
  {g':G} {w':World} {v:Value} (hr: ∃hc,(ZHg ops s h')[cE ops (fun k=>L k||k==i)]? =some hc/\HR g' hc w') (henv:EnvR g' E1 (a.put o.dst v)) (hle:Le g0 g') (hgr:Grew g0 w0 g' w')
  (hun: ∀(q k:Nat) (ok:Oper),(sch ops)[q]? =some k->ops[k]? =some ok->ZIo ok.op=2->L k=false->k≠i->goes ops ok (st q).1=some true-> ¬g'.ex (st q).2.next):
  Inv P F nt ops s st e e' h' g0 w0 (fun k=>L k||k==i) E1 g' (a.put o.dst v) w':=by
 have hdi: ∀t,ZHi ops i=some t↔o.dst=some t:=fun t=>by unfold ZHi;rw [ho];rfl
 refine ⟨hr,henv,fun t j hj hL=>?_,fun t hn=>?_,by rw [Am.Zd6];exact inv.sz,hle,hgr,fun q k ok hq hok hc hL hg=>?_⟩
 ·by_cases hd:o.dst=some t
  ·rw [((ZgW hput).1 t hd).2,hval t hd]
  ·rw [(ZgW hput).2 t hd];refine inv.ep1 t j hj ?_;simp only [qL,beq_iff_eq] at hL;rcases hL with hL|rfl
   ·exact hL
   ·exact absurd ((hdi t).1 hj) hd
 ·have hd:o.dst≠some t:=fun hd=>by
   have:=hn i ((hdi t).2 hd);simp at this
  rw [(ZgW hput).2 t hd];refine inv.ep2 t fun j hj=>?_;have:=hn j hj;simp only [jO] at this;exact this.1
 ·simp only [jO,beq_eq_false_iff_ne] at hL;exact hun q k ok hq hok hc hL.1 hL.2 hg
variable (hF:Zcv P F) (hN:ZHz F) (hck: ∀x∈s,ZJs ops P F (ZHg ops s h') e' x=true)
include hF hN hck
theorem ZJj (inv:Inv P F nt ops s st e e' h' g0 w0 L E g a w) (hg0:HR g0 h w0) (hcl:Cl ops L) {i:Nat} {o:Oper} (ho:ops[i]? =some o) (hLi:L i=false) (hrd: ∀ed∈o.after,Region.binds .any ed=true->L ed.on=true)
   {K:Act->World->Prop} {Q:Exit->Act->World->Prop} (hK: ∀v w' E' g',Inv P F nt ops s st e e' h' g0 w0 (fun k=>L k||k==i) E' g' (a.put o.dst v) w'->Le0 g g'->Grew g w g' w'->K (a.put o.dst v) w'):wpOpIn (FR R) 0 P ops Q i K a w:=by
 obtain ⟨p,hpos⟩:=hp.pos (Array.getElem?_eq_some_iff.1 ho).1;have hpl:=Am.Zaq hpos;obtain ⟨hsn,o',ho',hst⟩:=ht.at_ p i hpos;have hoo:o'=o:=by rw [ho] at ho';exact (qR ho').symm
 subst hoo;obtain ⟨b,ov,hgo,hb1,hb2,hput⟩:=ZHM hst;have hreads:=ZMv hp ht hz hl inv hcl hpos ho hLi hrd;have hagr:Agr E (st p).1 (ZHr o'.op):=Agr.of fun t h=>hreads t (by unfold ZHX;exact List.mem_append_right _ h);have hgoE:goes ops o' E=some b:=by
   rw [<-hgo];unfold goes;split
   · rfl
   · rename_i j want hgu;split
     · rename_i oj hoj;split
       · rename_i t hdt;have:t∈ZHX ops o':=by
           unfold ZHX gtmp;rw [hgu];simp [hoj,hdt]
         rw [hreads t this]
       · rfl
     · rfl
 have hval0: ∀t:Nat,o'.dst=some t->t<nt/\e'.get t=some (ov.getD (.tup [])):=fun t hd=>by
   have hd':ZHi ops i=some t:=by unfold ZHi;rw [ho];exact hd
   obtain ⟨q1,q2⟩:=(ZgW hput).1 t hd;refine ⟨q1,?_⟩;have:=ZLy hp ht hz hl hpos hd' (b:=(sch ops).length) Zo (qG _);rw [hl] at this;rw [show e'.get t=(st (p+1)).1.get t from this,q2]
 have hputE: ∀ov':Option V,∃E1,putE nt E o'.dst ov'=some E1:=fun ov'=>by
   cases hd:o'.dst with
   | none=>exact ⟨E,rfl⟩
   | some t=>
     have:=(hval0 t hd).1;exact ⟨E.set t (ov'.getD (.tup [])),by simp only [putE];rw [if_pos this]⟩
 obtain ⟨hc,hhc,hhr⟩:=inv.hr;have hck':=hck _ (yU hsn);unfold ZJs at hck';simp only [ho,hgo] at hck';have calm: ∀{ov':Option V},ZJc P F nt ops o' E hc=(putE nt E o'.dst ov').map (fun e=>(e,hc))->isE ops i=false->(∀t:Nat,o'.dst=some t->e'.get t=some (ov'.getD (.tup [])))->wpOpIn (FR R) 0 P ops Q i K a w:=fun {ov'} hsv hnE hval=>by
   obtain ⟨E1,hE1⟩:=hputE ov';rw [hE1] at hsv;refine ZyK hF hhr inv.env inv.sz ho hsv fun v w' g' r1 r2 r3 r4=>hK v w' E1 g' ?_ r3.toLe0 r4;refine ZIz hp ht hz hl inv hpos ho hE1 hval ⟨hc,by rw [ZIK hp ht hz hl hnE];exact hhc,r2⟩ r1 (inv.le.trans r3) (inv.gr.trans r4) fun q k ok hq hok hcl2 hLk hne hgk hex=>?_;rcases r3.new _ hex with h1|h1
   · exact inv.un q k ok hq hok hcl2 hLk hgk h1
   · have:=r2.nx _ hex;rw [hhr.top] at h1;omega
 cases b with
 | false=>
   obtain ⟨rfl,hsame⟩:=hb2 rfl;have hsv: ∀hx:H,ZJc P F nt ops o' E hx=(putE nt E o'.dst none).map fun e=>(e,hx):=fun hx=>by unfold ZJc;rw [hgoE]
   by_cases hE:isE ops i=true
   · obtain ⟨c,c1,c2,q,q1,q2,q3,q4⟩:=ZMi hp ht hz hl hpos hE;obtain ⟨k1,k2⟩:=ZKc hp ht hz hl hcl ho c1 hLi hrd;obtain ⟨E1,hE1⟩:=hputE none;have hhe:hc=(st p).2:=by rw [k1,c2] at hhc;exact (qR hhc).symm
     subst hhe;have h0:=hsv (st p).2;rw [hE1] at h0;refine ZyK hF hhr inv.env inv.sz ho h0 fun v w' g' r1 r2 r3 r4=>hK v w' E1 (g'.up (st q).2.next) ?_ (r3.toLe0.trans (ZH5 _ _)) (r4.up _);have r2':HR g' (st (p+1)).2 w':=by rw [hsame];exact r2
     have hgh:=ZKX ht r2' q1 q2 q4;have hm:(st p).2.next<=(st q).2.next:=ht.mono hN Zo q2;refine ZIz hp ht hz hl inv hpos ho hE1 (fun t hd=>(hval0 t hd).2) ⟨_,by rw [k2];exact q3,hgh⟩ (r1.mono (ZH5 _ _)) ⟨(inv.le.trans r3).toLe0.trans (ZH5 _ _),?_,(inv.le.trans r3).new,(inv.le.trans r3).dfs⟩ ((inv.gr.trans r4).up _) fun q' k ok hq hok hcl2 hLk hne hgk hex=>?_
     · show g0.top<=(st q).2.next;have:=inv.le.top;rw [hhr.top] at this;omega
     · rcases r3.new _ hex with h1|h1
       · exact inv.un q' k ok hq hok hcl2 hLk hgk h1
       · have:=r2.nx _ hex;rw [hhr.top] at h1;omega
   · have hE:isE ops i=false:=by simpa using hE
     exact calm (ov':=none) (hsv hc) hE fun t hd=>(hval0 t hd).2
 | true=>
   have hop:=hb1 rfl;have hopE: ∀hx:H,opV P F E hx o'.op=opV P F (st p).1 hx o'.op:=fun hx=>ZKn hagr;have hnE:ZIo o'.op≠3->isE ops i=false:=fun hne=>by
     rw [jJ];exact fun hh=>hne ((ZMZ ho).1 hh)
   rcases ZJ8 o'.op with hcl3|hcl3|hcl3|hcl3
   · refine calm (ov':=ov) ?_ (hnE Zo) fun t hd=>(hval0 t hd).2;unfold ZJc;rw [hgoE,hopE,(ZKe hcl3 hop).2 hc]
   · obtain ⟨l1,l2⟩:=ZKd hp ht hz hl hcl ho hLi hrd;simp only [hcl3,beq_self_eq_true,if_true] at hck';have:=List.all_eq_true.1 hck' (cE ops L) (by rw [List.mem_range'_1];omega);rw [hhc] at this;simp only at this;split at this
     · rename_i ov2 h2 hop2;have hh2:=ZKV hcl3 hop2;subst hh2;refine calm (ov':=ov2) ?_ (hnE Zo) fun t hd=>?_
       · unfold ZJc;rw [hgoE,hopE,hop2]
       · rw [hd] at this;exact ZMc this
     · cases this
   · obtain ⟨l1,l2⟩:=ZKd hp ht hz hl hcl ho hLi hrd;have h21:(2==1)=false:=rfl;simp only [hcl3,h21,qW,if_false,beq_self_eq_true,if_true] at hck';split at hck'
     · rename_i cN vN tyN hmk;have:=List.all_eq_true.1 hck' (cE ops L) (by rw [List.mem_range'_1];omega);rw [hhc] at this;simp only [qH,jA] at this;obtain ⟨⟨hlt,hty⟩,hob⟩:=this;have hob:=ZNa hob;have hty:=ZNo hty;have hun:=inv.un p i o' hpos ho hcl3 hLi hgo;have hmkE:mkV P E o'.op=some (cN,vN,tyN):=by rw [ZIe hagr];exact hmk
       obtain ⟨r,ob,sz,m1,m2,m3,m4⟩:=ZMT hhr inv.env hmkE;have hov:ov=some (vN (st p).2.next):=by
         rw [ZM3 hcl3,hmk] at hop;simp only [mkR,jV,qB,qF] at hop;exact hop.1.symm
       obtain ⟨E1,hE1⟩:=hputE ov;unfold wpOpIn;simp only [ho];rw [ZIn inv.env hgoE,if_pos rfl];refine ZJA m1 (.inl ⟨_,rfl⟩) ?_;have hmap:=hhr.map hun hlt hob ob sz (m2 _ _ hun) (m4.1 _) (fun t n h0=>m4.2 t n (hty.symm.trans h0));have hle0:=ZHo g hun w.heap.size sz;refine hK r _ E1 (g.grow (st p).2.next w.heap.size sz) ?_ hle0 (ZH8 hun ob sz);have hm:(st 0).2.next<=(st p).2.next:=ht.mono hN (jW _) Zo;rw [hz] at hm;refine ZIz hp ht hz hl inv hpos ho hE1 (fun t hd=>(hval0 t hd).2) ⟨hc,by rw [ZIK hp ht hz hl (hnE Zo)];exact hhc,hmap⟩ ((inv.env.mono hle0).put inv.sz hE1 (by rw [hov];exact m3 _))
         ⟨inv.le.toLe0.trans hle0,?_,fun b' hb'=>?_,inv.le.dfs⟩ (inv.gr.trans ?_) fun q' k ok hq hok hcl2 hLk hne hgk hex=>?_
       · exact kT inv.le.top (jT _ _)
       · rcases hb' with hb'|hb'
         · exact inv.le.new b' hb'
         · right
           rw [hb',hg0.top];exact hm
       · exact ZH8 hun ob sz
       · rcases hex with hex|hex
         · exact inv.un q' k ok hq hok hcl2 hLk hgk hex
         ·
           obtain ⟨_,ok',hok',hst'⟩:=ht.at_ q' k hq;have:ok'=ok:=by rw [hok] at hok';exact (qR hok').symm
           subst this;obtain ⟨b2,ov2,hgo2,hc1,_,_⟩:=ZHM hst';rw [hgk] at hgo2;cases hgo2;have hn2:=hc1 rfl;rw [ZM3 hcl2] at hn2;simp only [mkR,qC,qF] at hn2;obtain ⟨m,_,_,hm2⟩:=hn2;have hn1:=hop;rw [ZM3 hcl3] at hn1;simp only [mkR,qC,qF] at hn1;obtain ⟨m',_,_,hm1⟩:=hn1;have hq2:=Am.Zaq hq;have e1:(st (p+1)).2.next=(st p).2.next+1:=by rw [<-hm1];rfl
           have e2:(st (q'+1)).2.next=(st q').2.next+1:=by rw [<-hm2];rfl
           rcases yO q' p with h1|h1|h1
           · have:=ht.mono hN (a:=q'+1) (b:=p) h1 Zo;omega
           · subst h1;rw [hpos,qB] at hq;exact hne hq.symm
           · have:=ht.mono hN (a:=p+1) (b:=q') h1 Zo;omega
     · cases hck'
   · have hE:=(ZMZ ho).2 hcl3;obtain ⟨c,c1,c2,q,q1,q2,q3,q4⟩:=ZMi hp ht hz hl hpos hE;obtain ⟨k1,k2⟩:=ZKc hp ht hz hl hcl ho c1 hLi hrd;obtain ⟨E1,hE1⟩:=hputE ov;have hhe:hc=(st p).2:=by rw [k1,c2] at hhc;exact (qR hhc).symm
     subst hhe;have h0:ZJc P F nt ops o' E (st p).2=some (E1,(st (p+1)).2):=by
       unfold ZJc;rw [hgoE,hopE,hop];simp only [hE1,jV]
     refine ZyK hF hhr inv.env inv.sz ho h0 fun v w' g' r1 r2 r3 r4=>hK v w' E1 (g'.up (st q).2.next) ?_ (r3.toLe0.trans (ZH5 _ _)) (r4.up _);have hgh:=ZKX ht r2 q1 q2 q4;have hm:(st p).2.next<=(st q).2.next:=ht.mono hN Zo q2;refine ZIz hp ht hz hl inv hpos ho hE1 (fun t hd=>(hval0 t hd).2) ⟨_,by rw [k2];exact q3,hgh⟩ (r1.mono (ZH5 _ _)) ⟨(inv.le.trans r3).toLe0.trans (ZH5 _ _),?_,(inv.le.trans r3).new,(inv.le.trans r3).dfs⟩ ((inv.gr.trans r4).up _) fun q' k ok hq hok hcl2 hLk hne hgk hex=>?_
     · show g0.top<=(st q).2.next;have:=inv.le.top;rw [hhr.top] at this;omega
     · rcases r3.new _ hex with h1|h1
       · exact inv.un q' k ok hq hok hcl2 hLk hgk h1
       · have h2:=r2.nx _ hex;rw [hhr.top] at h1;obtain ⟨_,ok',hok',hst'⟩:=ht.at_ q' k hq;have:ok'=ok:=by rw [hok] at hok';exact (qR hok').symm
         subst this;obtain ⟨b2,ov2,hgo2,hc1,_,_⟩:=ZHM hst';rw [hgk] at hgo2;cases hgo2;have hn2:=hc1 rfl;rw [ZM3 hcl2] at hn2;simp only [mkR,qC,qF] at hn2;obtain ⟨m,_,_,hm2⟩:=hn2;have e2:(st (q'+1)).2.next=(st q').2.next+1:=by rw [<-hm2];rfl
         have hq2:=Am.Zaq hq;rcases yO q' p with h3|h3|h3
         · have:=ht.mono hN (a:=q'+1) (b:=p) h3 Zo;omega
         · subst h3;rw [hpos,qB] at hq;exact hne hq.symm
         · have:=ht.mono hN (a:=p+1) (b:=q') h3 Zo;omega
end
end Go.Cm
end
