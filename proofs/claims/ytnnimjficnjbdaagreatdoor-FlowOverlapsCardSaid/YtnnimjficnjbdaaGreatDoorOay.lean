/- Part. -/
import Derived.Test.YtnnimjficnjbdaaGreatDoorOat
import Derived.Test.YtnnimjficnjbdaaGreatDoorOaw
import Derived.Scope
import Derived.OrdersIn
import Derived.RangeFuncRecord
set_option maxRecDepth 999999
set_option maxHeartbeats 0
set_option linter.all false
section
namespace Go.Cm
open Go.Am (Zaw Zhz ZjZ ZuJ Zk0 Zra)
attribute [local instance] wi0
variable {P:Program} {R:Option Nat} {F:ZaQ} {g:G} {e e':Env} {a:Act} {w:World} {h h':H} {ov:Option V} {o:Oper}
def FR (R:Option Nat):Fence:={Fence.wide with round:=R}
theorem ZJk {n f:Nat} {args:Array Value} {w:World} {Q:Ending->World->Prop}:CallsIn (FR R) n P f args w Q↔Calls P f args w Q:=callsIn_wide
theorem ZOv {nx:Next} {w':World} (h:(execOp a.eval o).run P w= .ok nx w') (hn:(∃v,nx= .value v)∨nx= .skip):(o.semAt R a.eval).run P w= .ok nx w':=by
 by_cases hd: ∃c,o.op= .defer c
 · obtain ⟨c,hc⟩:=hd
   exfalso
   simp only [execOp,hc,Sem.run_bind] at h
   cases hr:(resolve a.eval c o.type).run P w with
   | ok d w1=>
     rw [hr] at h
     simp only [Result.andThen_ok,Sem.run_pure,Result.ok.injEq] at h
     rcases hn with ⟨v,rfl⟩|rfl
     · cases h.1
     · cases h.1
   | halt x w1=>rw [hr] at h;cases h
 · rw [Oper.semAt_eq R a.eval o fun c hc=>hd ⟨c,hc⟩];exact h
theorem ZKg {nx:Next} {w':World} {n:Nat} {K:Act->World->Prop} {Q:Exit->Act->World->Prop} (h:(execOp a.eval o).run P w= .ok nx w') (hn:(∃v,nx= .value v)∨nx= .skip)
  (hk:K (a.put o.dst (match nx with| .value v=>v|_=>undef)) w'):o.wpIn (FR R) n P a w K Q:=by
 refine ⟨fun _ _=>trivial,?_⟩
 show o.uponIn (FR R) n P a K Q ((o.semAt R a.eval).run P w)
 rw [ZOv h hn]
 rcases hn with ⟨v,rfl⟩|rfl<;>exact hk
theorem ZOp {w':World} {n:Nat} {K:Act->World->Prop} {Q:Exit->Act->World->Prop} (h:(execOp a.eval o).run P w= .ok .skip w') (hk:K (a.put o.dst undef) w'):o.wpIn (FR R) n P a w K Q:=ZKg h (.inr rfl) hk
def ZHF (P:Program) (f:Nat) (args:List V) (h:H) (v:V) (h':H):Prop:=
 (Zhz P f=true/\ ∀(g:G) (w:World) (vs:List Value),HR g h w->Rels g args vs->
  Calls P f vs.toArray w fun r w'=> ∃u g',r= .returned u/\Rel g' v u/\HR g' h' w'/\Le g g'/\Grew g w g' w')∨
 (h'=h/\ ∀(g:G) (w:World) (vs:List Value),Rels g args vs-> ∃u,(callFunc f vs.toArray).run P w= .ok (.value u) w/\Rel g v u)
def ZNS (P:Program) (l:Nat) (args:List V) (h:H) (v:V) (h':H):Prop:=
 ∀(g:G) (w:World) (vs:List Value),HR g h w->g.ex l->Rels g args vs-> ∃r,w.heap[(g.β l).1]? =some (.loop r)/\vs.length=r.params.size/\
  RoundIn Fence.wide 0 P (g.β l).1 r.fn ((r.params.zip vs.toArray).foldl (fun tmps (t,a)=>tmps.setIfInBounds t a) r.tmps) r.assign r.body w fun e w'=> ∃u g',e= .returned u/\Rel g' v u/\HR g' h' w'/\Le g g'/\Grew g w g' w'
def Zcv (P:Program) (F:ZaQ):Prop:= ∀(f:Nat) (args:List V) (h:H) (v:V) (h':H),F f args h=some (v,h')->(Nat.blt f YB=true->ZHF P f args h v h')/\ ∀l,f=YB+l->ZNS P l args h v h'
def OpWp (P:Program) (o:Oper) (a:Act) (w:World) (g:G) (ov:Option V) (h':H):Prop:=
 ∀(R:Option Nat) (K:Act->World->Prop) (Q:Exit->Act->World->Prop),(∀v w' g',Rel g' (ov.getD (.tup [])) v->HR g' h' w'->Le g g'->Grew g w g' w'->K (a.put o.dst v) w')->o.wpIn (FR R) 0 P a w K Q
theorem OpOK.wp (h:OpOK P o a w g ov h'):OpWp P o a w g ov h':=by
 intro R K Q hK
 obtain ⟨nx,v,w',g',hr,hv,h1,h2,h3,h4⟩:=h
 have:=hK v w' g' h1 h2 h3 h4
 rcases hv with rfl|⟨rfl,rfl⟩
 ·exact ZKg hr (.inl ⟨_,rfl⟩) this
 ·exact ZKg hr (.inr rfl) this
theorem Zye (hF:Zcv P F) (hh:HR g h w) (he:EnvR g e a) {c:Call} (ho:o.op= .call c) (hx:opV P F e h (.call c)=some (ov,h')):OpWp P o a w g ov h':=by
 simp only [opV] at hx
 split at hx
 ·rename_i f args hc hargs
  split at hx
  ·rename_i fv hf
   simp only [Option.map_eq_some_iff,Prod.mk.injEq] at hx
   obtain ⟨⟨z,h1⟩,hz,rfl,rfl⟩:=hx
   unfold ZQZ at hz
   split at hz
   ·rename_i f' first caps
    have hfr:=ZG2 he hf
    simp only [Rel] at hfr
    obtain ⟨fs,cs,hv,h1,h2⟩:=hfr
    have heq:fs.toArray++c.args.map a.eval++cs.toArray=(fs++c.args.toList.map a.eval++cs).toArray:=by
     apply Array.toList_inj.1
     simp
    have hrs:=(h1.append (ZIQ he hargs)).append h2
    cases hlt:Nat.blt f' YB with
    | false=>rw [hlt] at hz;cases hz
    | true=>
    rw [hlt] at hz
    simp only [cond_true] at hz
    rcases (hF _ _ _ _ _ hz).1 hlt with ⟨q1,q2⟩|⟨rfl,q2⟩
    ·have hcall:=q2 g w _ hh hrs
     intro R K Q hK
     refine ⟨fun _ _=>trivial,?_⟩
     show o.uponIn (FR R) 0 P a K Q ((o.semAt R a.eval).run P w)
     rw [Oper.semAt_eq R a.eval o (fun c hd=>by rw [ho] at hd;cases hd),ZjZ ho hc hv q1,Oper.uponIn_enter]
     rw [heq]
     refine ⟨fun hd=>(by cases hd),ZJk.2 (hcall.mono ?_)⟩
     rintro r w' ⟨u,g',rfl,r1,r2,r3,r4⟩
     exact hK u w' g' r1 r2 r3 r4
    ·obtain ⟨u,r1,r2⟩:=q2 g w _ hrs
     refine OpOK.wp ⟨.value u,u,w,g,?_,.inl rfl,r2,hh,Le.refl g,Grew.refl _ _⟩
     simp only [execOp,ho,resolve,hc,hv,Deferred.ofValue]
     rw [Sem.run_bind]
     show ((callFunc f' (fs.toArray++c.args.map a.eval++cs.toArray)).run P w)=_
     rw [heq];exact r1
   ·rename_i l
    have hfr:=ZG2 he hf
    simp only [Rel] at hfr
    obtain ⟨hl,hv⟩:=hfr
    obtain ⟨r,hr,hn,hround⟩:=(hF _ _ _ _ _ hz).2 l rfl g w _ hh hl (ZIQ he hargs)
    intro R K Q hK
    refine ⟨fun _ _=>trivial,?_⟩
    show o.uponIn (FR R) 0 P a K Q ((o.semAt R a.eval).run P w)
    have hsz:(c.args.map a.eval).size=r.params.size:=by simpa using hn
    have hrun:(execOp a.eval o).run P w= .ok (.round (g.β l).1 r.fn ((r.params.zip (c.args.map a.eval)).foldl (fun tmps (t,a)=>tmps.setIfInBounds t a) r.tmps) r.assign r.body) w:=by
     simp only [execOp,ho,resolve,hc,hv,Deferred.ofValue]
     rw [Sem.run_bind]
     show (Instr.yield (g.β l).1 (#[]++c.args.map a.eval)).run P w=_
     rw [Array.empty_append]
     exact run_yield hr hsz
    rw [Oper.semAt_eq R a.eval o (fun c hd=>by rw [ho] at hd;cases hd),hrun,Oper.uponIn_round]
    refine ⟨fun hd=>(by cases hd),?_⟩
    have heq:c.args.map a.eval=(c.args.toList.map a.eval).toArray:=by
     apply Array.toList_inj.1
     simp
    rw [heq]
    refine RoundIn.mono (F:=FR R) (n:=0) hround ?_
    rintro e w' ⟨u,g',rfl,r1,r2,r3,r4⟩
    exact hK u w' g' r1 r2 r3 r4
   ·cases hz
  ·cases hx
 ·rename_i b args hc hargs
  simp only [Option.map_eq_some_iff,Prod.mk.injEq] at hx
  obtain ⟨⟨z,h1⟩,hz,rfl,rfl⟩:=hx
  exact (ZMT hh he ho hc hargs hz).wp
 ·cases hx
theorem Zyz (hF:Zcv P F) (hh:HR g h w) (he:EnvR g e a) (hx:opV P F e h o.op=some (ov,h')):OpWp P o a w g ov h':=by
 generalize hop:o.op=op at hx
 cases op with
 | move x=>exact (ZNO hh he (.inl hop) hx).wp
 | assign x=>exact (ZNO hh he (.inr hop) hx).wp
 | pick c x y=>exact (Zyw hh he hop hx).wp
 | alloc el=>exact (ZP1 hh he (by rw [hop];exact hx)).wp
 | box el x=>exact (ZP1 hh he (by rw [hop];exact hx)).wp
 | build t ps=>exact (ZwT hh he hop hx).wp
 | buildSlice t n ps=>exact (ZP1 hh he (by rw [hop];exact hx)).wp
 | load t x=>exact (Zyq hh he hop hx).wp
 | store t x y=>exact (ZOQ hh he hop hx).wp
 | nilCheck x=>exact (Zrd hh he hop hx).wp
 | binOp op t x y t'=>exact (ZAE hh he hop hx).wp
 | unOp op t x=>exact (ZSa hh he hop hx).wp
 | convert s d x=>exact (ZM8 hh he hop hx).wp
 | makeFunc f x y=>
   cases f with
   | func f=>exact (ZrP hh he hop hx).wp
   | _=>simp [opV] at hx
 | makeMap t r=>exact (ZP1 hh he (by rw [hop];exact hx)).wp
 | makeSlice t l c=>exact (ZP1 hh he (by rw [hop];exact hx)).wp
 | slice t x lo hi mx=>exact (ZwP hh he hop hx).wp
 | fieldAddr t x f=>exact (Zpb hh he hop hx).wp
 | field t x f=>exact (ZO9 hh he hop hx).wp
 | indexAddr t x i=>exact (Zo6 hh he hop hx).wp
 | index t x i=>exact (ZOI hh he hop hx).wp
 | lookup t x i ok=>exact (ZtP hh he hop hx).wp
 | mapUpdate t m k x=>exact (Zug hh he (.inl hop) hx).wp
 | insert t m k x=>exact (Zug (F:=F) hh he (.inr hop) hx).wp
 | range t x=>exact (ZOC hh he hop hx).wp
 | next x isS=>exact (ZP7 hh he hop hx).wp
 | extract t i=>exact (Zr8 hh he hop hx).wp
 | entry x=>exact (ZO5 hh he hop hx).wp
 | call c=>exact Zye hF hh he hop hx
 | _=>simp [opV] at hx
theorem ZHS {ops:Array Oper} (he:EnvR g e a) {b:Bool} (hg:goes ops o e=some b):Region.wanted o (yielded ops a.tmps)=b:=by
 unfold goes at hg
 split at hg
 ·rename_i hn
  cases hg
  simp [Region.wanted,hn]
 ·rename_i j want hn
  split at hg
  ·rename_i oj hoj
   split at hg
   ·rename_i t hdst
    obtain ⟨t,rfl⟩: ∃t₀:Nat,t₀=t:=⟨t,rfl⟩
    have hw: ∀v,a.tmps.getD t undef=v->Region.wanted o (yielded ops a.tmps)=((match v with| .bool b=>some b|_=>none)==some want):=fun v hv=>by
     simp only [Region.wanted,hn,yielded,hoj,hdst,Option.bind_some]
     congr 1
     by_cases hsz:t<a.tmps.size
     ·have:a.tmps[t]? =some v:=by rw [<-hv];simp [hsz]
      rw [this]
      cases v<;>rfl
     ·have h1:a.tmps[t]? =none:=Array.getElem?_eq_none Zo
      have:v=undef:=by rw [<-hv];simp [hsz]
      rw [h1,this];rfl
    split at hg
    ·rename_i c hc
     cases hg
     rw [hw _ (ZHr (he.2 t _ hc))]
     cases c<;>cases want<;>rfl
    ·rename_i hc
     cases hg
     have:=he.2 t _ hc
     simp only [Rel] at this
     obtain ⟨vs,hv,_⟩:=this
     rw [hw _ hv]
     rfl
    ·cases hg
   ·cases hg
  ·cases hg
theorem ZyK (hF:Zcv P F) (hh:HR g h w) (he:EnvR g e a) {nt:Nat} (hs:nt<=a.tmps.size) {ops:Array Oper} {i:Nat} (hi:ops[i]? =some o) (hx:ZJX P F nt ops o e h=some (e',h')) {K:Act->World->Prop} {Q:Exit->Act->World->Prop}
  (hK: ∀v w' g',EnvR g' e' (a.put o.dst v)->HR g' h' w'->Le g g'->Grew g w g' w'->K (a.put o.dst v) w'):wpOpIn (FR R) 0 P ops Q i K a w:=by
 unfold wpOpIn
 simp only [hi]
 unfold ZJX at hx
 split at hx
 ·rename_i hg
  rw [ZHS he hg,if_pos rfl]
  split at hx
  ·rename_i v h1 ho
   simp only [Option.map_eq_some_iff,Prod.mk.injEq] at hx
   obtain ⟨e1,hp,rfl,rfl⟩:=hx
   refine Zyz hF hh he ho R K Q fun u w' g' r1 r2 r3 r4=>?_
   exact hK u w' g' ((he.mono r3 r3.dfs).put hs hp r1) r2 r3 r4
  ·cases hx
 ·rename_i hg
  rw [ZHS he hg,if_neg Zs]
  simp only [Option.map_eq_some_iff,Prod.mk.injEq] at hx
  obtain ⟨e1,hp,rfl,rfl⟩:=hx
  exact ⟨fun _ _=>trivial,hK undef w g (he.put hs hp (by simp only [Option.getD_none,Rel];exact ⟨[],rfl,rfl⟩)) hh (Le.refl g) (Grew.refl _ _)⟩
 ·cases hx
def Done (nt:Nat) (e':Env) (h':H) (g:G) (w:World) (Q:Act->World->Prop):Prop:=
 ∀a' w' g',EnvR g' e' a'->nt<=a'.tmps.size->HR g' h' w'->Le g g'->Grew g w g' w'->Q a' w'
theorem Done.next {nt:Nat} {Q:Act->World->Prop} {g':G} {w':World} (hd:Done nt e' h' g w Q) (hl:Le g g') (hg:Grew g w g' w'):Done nt e' h' g' w' Q:=
 fun a2 w2 g2 h1 h2 h3 h4 h5=>hd a2 w2 g2 h1 h2 h3 (hl.trans h4) (hg.trans h5)
theorem ZpG (hF:Zcv P F) {nt:Nat} {ops:Array Oper} {Q:Exit->Act->World->Prop}: ∀(n k:Nat) {g:G} {e:Env} {a:Act} {w:World} {h:H},k+n=ops.size->HR g h w->EnvR g e a->nt<=a.tmps.size->
   runV P F nt ops (ops.toList.drop k) e h=some (e',h')->Done nt e' h' g w (Q .normal)->wpOpsIn (FR R) 0 P ops Q (List.range' k n) a w:=by
 intro n
 induction n with
 | zero=>
   intro k g e a w h hk hh he hs hx hD
   rw [List.drop_of_length_le Ze] at hx
   simp only [runV,Option.some.injEq,Prod.mk.injEq] at hx
   obtain ⟨rfl,rfl⟩:=hx
   exact hD a w g he hs hh (Le.refl g) (Grew.refl _ _)
 | succ n ih=>
   intro k g e a w h hk hh he hs hx hD
   have hkl:k<ops.size:=by omega
   rw [List.drop_eq_getElem_cons (by simpa using hkl)] at hx
   rw [List.range'_succ,wpOpsIn_cons]
   simp only [runV] at hx
   split at hx
   · rename_i e1 h1 hst
     refine ZyK hF hh he hs (i:=k) (by simp [hkl]) hst fun v w' g' r1 r2 r3 r4=>?_
     exact ih (k+1) Zo r2 r1 (by rw [Am.Zd6];exact hs) hx (hD.next r3 r4)
   · cases hx
end Go.Cm
end
section
namespace Go.Cm
attribute [local instance] wi0
variable {P:Program} {R:Option Nat} {F:ZaQ} {ops:Array Oper} {nt:Nat} {e e':Env} {h h':H} {g g0:G} {a:Act} {w w0:World}
theorem ZLy (op:Op):ZIi op=0∨ZIi op=1∨ZIi op=2∨ZIi op=3:=by
 cases op with
 | call c=>
   simp only [ZIi]
   split<;>simp
 | _=>simp [ZIi]
theorem ZO6 {i:Nat} {o:Oper} (ho:ops[i]? =some o):isE ops i=true↔ZIi o.op=3:=by
 unfold isE
 rw [ho]
 simp
theorem ZK7 {α:Type} {q:α->Bool}: ∀{l:List α} {p:Nat} {i:α},l[p]? =some i->q i=true->(l.filter q)[((l.take p).filter q).length]? =some i
 | x::l,0,i,h,hq=>by
   simp only [List.getElem?_cons_zero,Option.some.injEq] at h
   subst h
   simp [List.filter_cons,hq]
 | x::l,p+1,i,h,hq=>by
   have ih:=ZK7 (l:=l) (p:=p) (by simpa using h) hq
   simp only [List.take_succ_cons,List.filter_cons]
   by_cases hx:q x=true
   · rw [if_pos hx,if_pos hx];simpa using ih
   · rw [if_neg hx,if_neg hx];exact ih
 | [],p,i,h,_=>by simp at h
theorem ZN2 (hh:HR g h w):g.up h.next=g:=by
 have:=hh.top
 unfold G.up
 rw [<-this]
section
variable {s:List Snap} {st:Nat->Env×H} (hp:Pl ops) (ht:Tr P F nt ops (sch ops) s st)
include ht
theorem ZNa {a₀:Nat} (hh:HR g (st a₀).2 w) {b:Nat} (hab:a₀<=b) (hb:b<=(sch ops).length) (hn: ∀r i,a₀<=r->r<b->(sch ops)[r]? =some i->isE ops i=false):HR (g.up (st b).2.next) (st b).2 w:=by
 induction b with
 | zero=>
   obtain rfl:a₀=0:=by omega
   rw [ZN2 hh];exact hh
 | succ b ih=>
   rcases Nat.lt_or_ge a₀ (b+1) with hlt|hge
   · have hr:=ih Zo Zo fun r i h1 h2=>hn r i h1 Zo
     have hi:(sch ops)[b]? =some ((sch ops)[b]'(by omega)):=List.getElem?_eq_getElem _
     obtain ⟨_,o,ho,hst⟩:=ht.at_ b _ hi
     have hE:=hn b _ Zo (Nat.lt_succ_self _) hi
     obtain ⟨bb,ov,_,h1,h2,_⟩:=ZHJ hst
     have same:(st (b+1)).2=(st b).2->HR (g.up (st (b+1)).2.next) (st (b+1)).2 w:=fun hs=>by rw [hs];exact hr
     cases bb with
     | false=>exact same (h2 rfl).2
     | true=>
       have h1:=h1 rfl
       rcases ZLy o.op with hc|hc|hc|hc
       · exact same (ZK8 hc h1).1
       · exact same (ZMe hc h1)
       · rw [ZPe hc] at h1
         simp only [mkR,Option.map_eq_some_iff,Prod.mk.injEq] at h1
         obtain ⟨m,_,_,hm⟩:=h1
         rw [<-hm]
         exact hr.ghost _ _
       · have:=(ZO6 ho).2 hc
         rw [this] at hE;cases hE
   · obtain rfl:a₀=b+1:=by omega
     rw [ZN2 hh];exact hh
end
def cE (ops:Array Oper) (L:Nat->Bool):Nat:=((effs ops).filter L).length
structure Inv (P:Program) (F:ZaQ) (nt:Nat) (ops:Array Oper) (s:List Snap) (st:Nat->Env×H) (e e':Env) (h':H) (g0:G) (w0:World) (L:Nat->Bool) (E:Env) (g:G) (a:Act) (w:World):Prop where
 hr: ∃hc,(ZG9 ops s h')[cE ops L]? =some hc/\HR g hc w
 env:EnvR g E a
 ep1: ∀(t j:Nat),ZHc ops j=some t->L j=true->E.get t=e'.get t
 ep2: ∀t:Nat,(∀j,ZHc ops j=some t->L j=false)->E.get t=e.get t
 sz:nt<=a.tmps.size
 le:Le g0 g
 gr:Grew g0 w0 g w
 un: ∀(p i:Nat) (o:Oper),(sch ops)[p]? =some i->ops[i]? =some o->ZIi o.op=2->L i=false->goes ops o (st p).1=some true-> ¬g.ex (st p).2.next
section
variable {s:List Snap} {st:Nat->Env×H} (hp:Pl ops) (ht:Tr P F nt ops (sch ops) s st) (hz:st 0=(e,h)) (hl:st (sch ops).length=(e',h'))
variable {L:Nat->Bool} {E:Env}
include hp ht hz hl
theorem ZNb {p i t:Nat} (hi:(sch ops)[p]? =some i) (hd:ZHc ops i=some t) {b:Nat} (hb:p<b) (hbl:b<=(sch ops).length):(st b).1.get t=(st (p+1)).1.get t:=
 ht.keep Zo hbl fun r k h1 h2 hk hdk=>by
  have:=hp.ds k i t hdk hd
  subst this
  have:=hp.uniq hk hi
  omega
theorem ZKu {p i t j:Nat} (hj:(sch ops)[j]? =some i) (hd:ZHc ops i=some t) (hpj:p<=j):(st p).1.get t=e.get t:=by
 have:=ht.keep (t:=t) (a:=0) (b:=p) (Nat.zero_le _) (by have:=Am.Zaq hj;omega) fun r k h1 h2 hk hdk=>by
  have:=hp.ds k i t hdk hd
  subst this
  have:=hp.uniq hk hj
  omega
 rw [this,hz]
theorem ZMj {p t:Nat} (hn: ∀i,ZHc ops i≠some t) (hpl:p<=(sch ops).length):(st p).1.get t=e.get t:=by
 have:=ht.keep (t:=t) (a:=0) (b:=p) (Nat.zero_le _) hpl fun r k h1 h2 hk=>hn k
 rw [this,hz]
theorem ZO3 (inv:Inv P F nt ops s st e e' h' g0 w0 L E g a w) (hcl:Cl ops L) {p i:Nat} {o:Oper} (hpos:(sch ops)[p]? =some i) (ho:ops[i]? =some o) (hLi:L i=false) (hrd: ∀ed∈o.after,Region.binds .any ed=true->L ed.on=true):
   ∀t∈ZHX ops o,E.get t=(st p).1.get t:=by
 intro t htr
 have hpl:=Am.Zaq hpos
 by_cases hw: ∃j,ZHc ops j=some t
 · obtain ⟨j,hj⟩:=hw
   have hjl:=ZIl hj
   obtain ⟨q,hq⟩:=hp.pos hjl
   by_cases hji:j=i
   · subst hji
     rw [inv.ep2 t fun k hk=>by rw [hp.ds k j t hk hj];exact hLi]
     exact (ZKu hp ht hz hl hpos hj (Nat.le_refl _)).symm
   · have hok:=hp.rd i (Array.getElem?_eq_some_iff.1 ho).1
     unfold ZK5 at hok
     rw [ho] at hok
     have:=List.all_eq_true.1 hok j (List.mem_range.2 hjl)
     simp only [hj,Bool.or_eq_true,beq_iff_eq,Bool.not_eq_true'] at this
     rcases this with h0|(h0|h0)|h0
     · exact absurd h0 hji
     · rw [Bool.eq_false_iff] at h0
       exact absurd (List.elem_eq_true_of_mem htr) h0
     · have hLj:=ZG5 hp hcl i o ho hrd j h0
       obtain ⟨q',q1,q2⟩:=hp.before hpos h0
       have hqq:=hp.uniq hq q2
       subst hqq
       rw [inv.ep1 t j hj hLj,ZNb hp ht hz hl hq hj q1 Zo]
       have:=ZNb hp ht hz hl hq hj (b:=(sch ops).length) Zo (Nat.le_refl _)
       rw [hl] at this
       exact this
     · have hoj:ops[j]? =some (ops[j]'hjl):=Array.getElem?_eq_getElem _
       have hLj:L j=false:=by
         cases hLj:L j with
         | false=>rfl
         | true=>
           have:=ZG5 hp hcl j _ hoj (fun ed h1 h2=>hcl j _ hoj hLj ed h1 h2) i h0
           rw [hLi] at this;cases this
       obtain ⟨q',q1,q2⟩:=hp.before hq h0
       have hqq:=hp.uniq hpos q2
       subst hqq
       rw [inv.ep2 t fun k hk=>by rw [hp.ds k j t hk hj];exact hLj]
       exact (ZKu hp ht hz hl hq hj (Nat.le_of_lt q1)).symm
 · have hn: ∀j,ZHc ops j≠some t:=fun j hj=>hw ⟨j,hj⟩
   rw [inv.ep2 t fun j hj=>absurd hj (hn j)]
   exact (ZMj hp ht hz hl hn Zo).symm
theorem ZLd (hcl:Cl ops L) {i:Nat} {o:Oper} (ho:ops[i]? =some o) (hLi:L i=false) (hrd: ∀ed∈o.after,Region.binds .any ed=true->L ed.on=true):loOf ops i<=cE ops L/\cE ops L<=hiOf ops i:=by
 refine ⟨ZJH fun k _ hk=>ZG5 hp hcl i o ho hrd k hk,ZJH fun k hk hLk=>?_⟩
 cases hb:(anc ops k).testBit i with
 | false=>rfl
 | true=>
   have hkl:k<ops.size:=by
     have:=(List.mem_filter.1 hk).1
     simpa using this
   have hok:ops[k]? =some (ops[k]'hkl):=Array.getElem?_eq_getElem _
   have:=ZG5 hp hcl k _ hok (fun ed h1 h2=>hcl k _ hok hLk ed h1 h2) i hb
   rw [hLi] at this;cases this
theorem ZLj (hcl:Cl ops L) {i c:Nat} {o:Oper} (ho:ops[i]? =some o) (hc:(effs ops)[c]? =some i) (hLi:L i=false) (hrd: ∀ed∈o.after,Region.binds .any ed=true->L ed.on=true):
  cE ops L=c/\cE ops (fun k=>L k||k==i)=c+1:=by
 have hcl':=Am.Zaq hc
 have hnod: ∀k,(effs ops)[k]? =some i->k=c:=fun k hk=>by
  rcases Nat.lt_trichotomy k c with h1|h1|h1
  ·have:=hp.ef c k i i h1 hc hk
   have:=ZG5 hp hcl i o ho hrd i this
   rw [hLi] at this;cases this
  ·exact h1
  ·have:=hp.ef k c i i h1 hk hc
   have:=ZG5 hp hcl i o ho hrd i this
   rw [hLi] at this;cases this
 have key: ∀k x,(effs ops)[k]? =some x->(L x=true↔k<c):=fun k x hx=>by
  constructor
  ·intro hLx
   rcases Nat.lt_trichotomy k c with h1|h1|h1
   ·exact h1
   ·subst h1;rw [hc,Option.some.injEq] at hx;subst hx;rw [hLi] at hLx;cases hLx
   ·have hb:=hp.ef k c x i h1 hx hc
    have hxl:x<ops.size:=by
     have:=(List.mem_filter.1 (List.mem_of_getElem? hx)).1
     simpa using this
    have hox:ops[x]? =some (ops[x]'hxl):=Array.getElem?_eq_getElem _
    have:=ZG5 hp hcl x _ hox (fun ed h1 h2=>hcl x _ hox hLx ed h1 h2) i hb
    rw [hLi] at this;cases this
  ·intro hk
   exact ZG5 hp hcl i o ho hrd x (hp.ef c k i x hk hc hx)
 refine ⟨ZHB Zo key,ZHB Zo fun k x hx=>?_⟩
 simp only [Bool.or_eq_true,beq_iff_eq,key k x hx]
 constructor
 ·rintro (h1|rfl)
  ·omega
  ·have:=hnod k hx;omega
 ·intro h1
  rcases Nat.lt_or_ge k c with h2|h2
  ·exact .inl h2
  ·obtain rfl:k=c:=by omega
   rw [hc,Option.some.injEq] at hx
   exact .inr hx.symm
theorem ZIU {i:Nat} (hE:isE ops i=false):cE ops (fun k=>L k||k==i)=cE ops L:=by
 unfold cE
 congr 1
 refine List.filter_congr fun k hk=>?_
 have:=(List.mem_filter.1 hk).2
 have hne:(k==i)=false:=by
  rw [beq_eq_false_iff_ne]
  rintro rfl
  rw [hE] at this;cases this
 rw [hne,Bool.or_false]
theorem ZNQ {p i:Nat} (hpos:(sch ops)[p]? =some i) (hE:isE ops i=true): ∃c,(effs ops)[c]? =some i/\(ZG9 ops s h')[c]? =some (st p).2/\
  ∃q,p+1<=q/\q<=(sch ops).length/\(ZG9 ops s h')[c+1]? =some (st q).2/\ ∀r k,p+1<=r->r<q->(sch ops)[r]? =some k->isE ops k=false:=by
 have hpl:=Am.Zaq hpos
 refine ⟨cntE ops (sch ops) p,?_,?_,?_⟩
 ·have:=ZK7 hpos hE
  rw [hp.fi] at this
  exact this
 ·obtain ⟨q,q1,q2,q3,q4,_⟩:=ht.heap (h':=h') (by rw [hl]) ((sch ops).length-p) p Zo
  have hq:q=p:=by
   rcases Nat.lt_or_ge p q with h1|h1
   ·have:=q4 p i (Nat.le_refl _) h1 hpos
    rw [hE] at this;cases this
   ·omega
  subst hq
  have:=ht.heaps (h':=h') q Zo 0
  rw [Nat.add_zero] at this
  rw [this];exact q3
 ·obtain ⟨q,q1,q2,q3,q4,_⟩:=ht.heap (h':=h') (by rw [hl]) ((sch ops).length-(p+1)) (p+1) Zo
  refine ⟨q,q1,q2,?_,q4⟩
  have hc:cntE ops (sch ops) (p+1)=cntE ops (sch ops) p+1:=by
   unfold cntE
   have he:(sch ops)[p]'hpl=i:=by rw [List.getElem?_eq_getElem hpl,Option.some.injEq] at hpos;exact hpos
   rw [List.take_succ_eq_append_getElem hpl,List.filter_append,List.length_append,he]
   simp [List.filter_cons,hE]
  have:=ht.heaps (h':=h') (p+1) Zo 0
  rw [Nat.add_zero,hc] at this
  rw [this];exact q3
theorem ZI2 (inv:Inv P F nt ops s st e e' h' g0 w0 L E g a w) {p i:Nat} {o:Oper} (hpos:(sch ops)[p]? =some i) (ho:ops[i]? =some o) {E1:Env} {ov:Option V} (hput:putE nt E o.dst ov=some E1) (hval: ∀t:Nat,o.dst=some t->e'.get t=some (ov.getD (.tup [])))
  {g':G} {w':World} {v:Value} (hr: ∃hc,(ZG9 ops s h')[cE ops (fun k=>L k||k==i)]? =some hc/\HR g' hc w') (henv:EnvR g' E1 (a.put o.dst v)) (hle:Le g0 g') (hgr:Grew g0 w0 g' w')
  (hun: ∀(q k:Nat) (ok:Oper),(sch ops)[q]? =some k->ops[k]? =some ok->ZIi ok.op=2->L k=false->k≠i->goes ops ok (st q).1=some true-> ¬g'.ex (st q).2.next):
  Inv P F nt ops s st e e' h' g0 w0 (fun k=>L k||k==i) E1 g' (a.put o.dst v) w':=by
 have hdi: ∀t,ZHc ops i=some t↔o.dst=some t:=fun t=>by unfold ZHc;rw [ho];rfl
 refine ⟨hr,henv,fun t j hj hL=>?_,fun t hn=>?_,by rw [Am.Zd6];exact inv.sz,hle,hgr,fun q k ok hq hok hc hL hg=>?_⟩
 ·by_cases hd:o.dst=some t
  ·rw [((ZgW hput).1 t hd).2,hval t hd]
  ·rw [(ZgW hput).2 t hd]
   refine inv.ep1 t j hj ?_
   simp only [Bool.or_eq_true,beq_iff_eq] at hL
   rcases hL with hL|rfl
   ·exact hL
   ·exact absurd ((hdi t).1 hj) hd
 ·have hd:o.dst≠some t:=fun hd=>by
   have:=hn i ((hdi t).2 hd)
   simp at this
  rw [(ZgW hput).2 t hd]
  refine inv.ep2 t fun j hj=>?_
  have:=hn j hj
  simp only [Bool.or_eq_false_iff] at this
  exact this.1
 ·simp only [Bool.or_eq_false_iff,beq_eq_false_iff_ne] at hL
  exact hun q k ok hq hok hc hL.1 hL.2 hg
variable (hF:Zcv P F) (hN:ZHn F) (hck: ∀x∈s,ZJ9 ops P F (ZG9 ops s h') e' x=true)
include hF hN hck
theorem ZJ3 (inv:Inv P F nt ops s st e e' h' g0 w0 L E g a w) (hg0:HR g0 h w0) (hcl:Cl ops L) {i:Nat} {o:Oper} (ho:ops[i]? =some o) (hLi:L i=false) (hrd: ∀ed∈o.after,Region.binds .any ed=true->L ed.on=true)
   {K:Act->World->Prop} {Q:Exit->Act->World->Prop} (hK: ∀v w' E' g',Inv P F nt ops s st e e' h' g0 w0 (fun k=>L k||k==i) E' g' (a.put o.dst v) w'->Le0 g g'->Grew g w g' w'->K (a.put o.dst v) w'):wpOpIn (FR R) 0 P ops Q i K a w:=by
 obtain ⟨p,hpos⟩:=hp.pos (Array.getElem?_eq_some_iff.1 ho).1
 have hpl:=Am.Zaq hpos
 obtain ⟨hsn,o',ho',hst⟩:=ht.at_ p i hpos
 have hoo:o'=o:=by rw [ho] at ho';exact (Option.some.inj ho').symm
 subst hoo
 obtain ⟨b,ov,hgo,hb1,hb2,hput⟩:=ZHJ hst
 have hreads:=ZO3 hp ht hz hl inv hcl hpos ho hLi hrd
 have hagr:Agr E (st p).1 (ZHj o'.op):=Agr.of fun t h=>hreads t (by unfold ZHX;exact List.mem_append_right _ h)
 have hgoE:goes ops o' E=some b:=by
   rw [<-hgo]
   unfold goes
   split
   · rfl
   · rename_i j want hgu
     split
     · rename_i oj hoj
       split
       · rename_i t hdt
         have:t∈ZHX ops o':=by
           unfold ZHX gtmp
           rw [hgu]
           simp [hoj,hdt]
         rw [hreads t this]
       · rfl
     · rfl
 have hval0: ∀t:Nat,o'.dst=some t->t<nt/\e'.get t=some (ov.getD (.tup [])):=fun t hd=>by
   have hd':ZHc ops i=some t:=by unfold ZHc;rw [ho];exact hd
   obtain ⟨q1,q2⟩:=(ZgW hput).1 t hd
   refine ⟨q1,?_⟩
   have:=ZNb hp ht hz hl hpos hd' (b:=(sch ops).length) Zo (Nat.le_refl _)
   rw [hl] at this
   rw [show e'.get t=(st (p+1)).1.get t from this,q2]
 have hputE: ∀ov':Option V,∃E1,putE nt E o'.dst ov'=some E1:=fun ov'=>by
   cases hd:o'.dst with
   | none=>exact ⟨E,rfl⟩
   | some t=>
     have:=(hval0 t hd).1
     exact ⟨E.set t (ov'.getD (.tup [])),by simp only [putE];rw [if_pos this]⟩
 obtain ⟨hc,hhc,hhr⟩:=inv.hr
 have hck':=hck _ (List.mem_of_getElem? hsn)
 unfold ZJ9 at hck'
 simp only [ho,hgo] at hck'
 have calm: ∀{ov':Option V},ZJX P F nt ops o' E hc=(putE nt E o'.dst ov').map (fun e=>(e,hc))->isE ops i=false->(∀t:Nat,o'.dst=some t->e'.get t=some (ov'.getD (.tup [])))->wpOpIn (FR R) 0 P ops Q i K a w:=fun {ov'} hsv hnE hval=>by
   obtain ⟨E1,hE1⟩:=hputE ov'
   rw [hE1] at hsv
   refine ZyK hF hhr inv.env inv.sz ho hsv fun v w' g' r1 r2 r3 r4=>hK v w' E1 g' ?_ r3.toLe0 r4
   refine ZI2 hp ht hz hl inv hpos ho hE1 hval ⟨hc,by rw [ZIU hp ht hz hl hnE];exact hhc,r2⟩ r1 (inv.le.trans r3) (inv.gr.trans r4) fun q k ok hq hok hcl2 hLk hne hgk hex=>?_
   rcases r3.new _ hex with h1|h1
   · exact inv.un q k ok hq hok hcl2 hLk hgk h1
   · have:=r2.nx _ hex
     rw [hhr.top] at h1
     omega
 cases b with
 | false=>
   obtain ⟨rfl,hsame⟩:=hb2 rfl
   have hsv: ∀hx:H,ZJX P F nt ops o' E hx=(putE nt E o'.dst none).map fun e=>(e,hx):=fun hx=>by unfold ZJX;rw [hgoE]
   by_cases hE:isE ops i=true
   · obtain ⟨c,c1,c2,q,q1,q2,q3,q4⟩:=ZNQ hp ht hz hl hpos hE
     obtain ⟨k1,k2⟩:=ZLj hp ht hz hl hcl ho c1 hLi hrd
     obtain ⟨E1,hE1⟩:=hputE none
     have hhe:hc=(st p).2:=by rw [k1,c2] at hhc;exact (Option.some.inj hhc).symm
     subst hhe
     have h0:=hsv (st p).2
     rw [hE1] at h0
     refine ZyK hF hhr inv.env inv.sz ho h0 fun v w' g' r1 r2 r3 r4=>hK v w' E1 (g'.up (st q).2.next) ?_ (r3.toLe0.trans (ZH9 _ _)) (r4.up _)
     have r2':HR g' (st (p+1)).2 w':=by rw [hsame];exact r2
     have hgh:=ZNa ht r2' q1 q2 q4
     have hm:(st p).2.next<=(st q).2.next:=ht.mono hN Zo q2
     refine ZI2 hp ht hz hl inv hpos ho hE1 (fun t hd=>(hval0 t hd).2) ⟨_,by rw [k2];exact q3,hgh⟩ (r1.mono (ZH9 _ _)) ⟨(inv.le.trans r3).toLe0.trans (ZH9 _ _),?_,(inv.le.trans r3).new,(inv.le.trans r3).dfs⟩ ((inv.gr.trans r4).up _) fun q' k ok hq hok hcl2 hLk hne hgk hex=>?_
     · show g0.top<=(st q).2.next
       have:=inv.le.top
       rw [hhr.top] at this
       omega
     · rcases r3.new _ hex with h1|h1
       · exact inv.un q' k ok hq hok hcl2 hLk hgk h1
       · have:=r2.nx _ hex
         rw [hhr.top] at h1
         omega
   · have hE:isE ops i=false:=by simpa using hE
     exact calm (ov':=none) (hsv hc) hE fun t hd=>(hval0 t hd).2
 | true=>
   have hop:=hb1 rfl
   have hopE: ∀hx:H,opV P F E hx o'.op=opV P F (st p).1 hx o'.op:=fun hx=>ZLl hagr
   have hnE:ZIi o'.op≠3->isE ops i=false:=fun hne=>by
     rw [Bool.eq_false_iff]
     exact fun hh=>hne ((ZO6 ho).1 hh)
   rcases ZLy o'.op with hcl3|hcl3|hcl3|hcl3
   · refine calm (ov':=ov) ?_ (hnE Zo) fun t hd=>(hval0 t hd).2
     unfold ZJX
     rw [hgoE,hopE,(ZK8 hcl3 hop).2 hc]
   · obtain ⟨l1,l2⟩:=ZLd hp ht hz hl hcl ho hLi hrd
     simp only [hcl3,beq_self_eq_true,if_true] at hck'
     have:=List.all_eq_true.1 hck' (cE ops L) (by rw [List.mem_range'_1];omega)
     rw [hhc] at this
     simp only at this
     split at this
     · rename_i ov2 h2 hop2
       have hh2:=ZMe hcl3 hop2
       subst hh2
       refine calm (ov':=ov2) ?_ (hnE Zo) fun t hd=>?_
       · unfold ZJX
         rw [hgoE,hopE,hop2]
       · rw [hd] at this
         exact ZN3 this
     · cases this
   · obtain ⟨l1,l2⟩:=ZLd hp ht hz hl hcl ho hLi hrd
     have h21:(2==1)=false:=rfl
     simp only [hcl3,h21,Bool.false_eq_true,if_false,beq_self_eq_true,if_true] at hck'
     split at hck'
     · rename_i cN vN tyN hmk
       have:=List.all_eq_true.1 hck' (cE ops L) (by rw [List.mem_range'_1];omega)
       rw [hhc] at this
       simp only [Bool.and_eq_true,Nat.blt_eq] at this
       obtain ⟨⟨hlt,hty⟩,hob⟩:=this
       have hob:=ZP6 hob
       have hty:=ZPX hty
       have hun:=inv.un p i o' hpos ho hcl3 hLi hgo
       have hmkE:mkV P E o'.op=some (cN,vN,tyN):=by rw [ZIf hagr];exact hmk
       obtain ⟨r,ob,sz,m1,m2,m3,m4⟩:=ZOL hhr inv.env hmkE
       have hov:ov=some (vN (st p).2.next):=by
         rw [ZPe hcl3,hmk] at hop
         simp only [mkR,Option.map_some,Option.some.injEq,Prod.mk.injEq] at hop
         exact hop.1.symm
       obtain ⟨E1,hE1⟩:=hputE ov
       unfold wpOpIn
       simp only [ho]
       rw [ZHS inv.env hgoE,if_pos rfl]
       refine ZKg m1 (.inl ⟨_,rfl⟩) ?_
       have hmap:=hhr.map hun hlt hob ob sz (m2 _ _ hun) (m4.1 _) (fun t n h0=>m4.2 t n (hty.symm.trans h0))
       have hle0:=ZHf g hun w.heap.size sz
       refine hK r _ E1 (g.grow (st p).2.next w.heap.size sz) ?_ hle0 (ZHx hun ob sz)
       have hm:(st 0).2.next<=(st p).2.next:=ht.mono hN (Nat.zero_le _) Zo
       rw [hz] at hm
       refine ZI2 hp ht hz hl inv hpos ho hE1 (fun t hd=>(hval0 t hd).2) ⟨hc,by rw [ZIU hp ht hz hl (hnE Zo)];exact hhc,hmap⟩ ((inv.env.mono hle0).put inv.sz hE1 (by rw [hov];exact m3 _))
         ⟨inv.le.toLe0.trans hle0,?_,fun b' hb'=>?_,inv.le.dfs⟩ (inv.gr.trans ?_) fun q' k ok hq hok hcl2 hLk hne hgk hex=>?_
       · exact Nat.le_trans inv.le.top (Nat.le_max_left _ _)
       · rcases hb' with hb'|hb'
         · exact inv.le.new b' hb'
         · right
           rw [hb',hg0.top]
           exact hm
       · exact ZHx hun ob sz
       · rcases hex with hex|hex
         · exact inv.un q' k ok hq hok hcl2 hLk hgk hex
         ·
           obtain ⟨_,ok',hok',hst'⟩:=ht.at_ q' k hq
           have:ok'=ok:=by rw [hok] at hok';exact (Option.some.inj hok').symm
           subst this
           obtain ⟨b2,ov2,hgo2,hc1,_,_⟩:=ZHJ hst'
           rw [hgk] at hgo2
           cases hgo2
           have hn2:=hc1 rfl
           rw [ZPe hcl2] at hn2
           simp only [mkR,Option.map_eq_some_iff,Prod.mk.injEq] at hn2
           obtain ⟨m,_,_,hm2⟩:=hn2
           have hn1:=hop
           rw [ZPe hcl3] at hn1
           simp only [mkR,Option.map_eq_some_iff,Prod.mk.injEq] at hn1
           obtain ⟨m',_,_,hm1⟩:=hn1
           have hq2:=Am.Zaq hq
           have e1:(st (p+1)).2.next=(st p).2.next+1:=by rw [<-hm1];rfl
           have e2:(st (q'+1)).2.next=(st q').2.next+1:=by rw [<-hm2];rfl
           rcases Nat.lt_trichotomy q' p with h1|h1|h1
           · have:=ht.mono hN (a:=q'+1) (b:=p) h1 Zo
             omega
           · subst h1
             rw [hpos,Option.some.injEq] at hq
             exact hne hq.symm
           · have:=ht.mono hN (a:=p+1) (b:=q') h1 Zo
             omega
     · cases hck'
   · have hE:=(ZO6 ho).2 hcl3
     obtain ⟨c,c1,c2,q,q1,q2,q3,q4⟩:=ZNQ hp ht hz hl hpos hE
     obtain ⟨k1,k2⟩:=ZLj hp ht hz hl hcl ho c1 hLi hrd
     obtain ⟨E1,hE1⟩:=hputE ov
     have hhe:hc=(st p).2:=by rw [k1,c2] at hhc;exact (Option.some.inj hhc).symm
     subst hhe
     have h0:ZJX P F nt ops o' E (st p).2=some (E1,(st (p+1)).2):=by
       unfold ZJX
       rw [hgoE,hopE,hop]
       simp only [hE1,Option.map_some]
     refine ZyK hF hhr inv.env inv.sz ho h0 fun v w' g' r1 r2 r3 r4=>hK v w' E1 (g'.up (st q).2.next) ?_ (r3.toLe0.trans (ZH9 _ _)) (r4.up _)
     have hgh:=ZNa ht r2 q1 q2 q4
     have hm:(st p).2.next<=(st q).2.next:=ht.mono hN Zo q2
     refine ZI2 hp ht hz hl inv hpos ho hE1 (fun t hd=>(hval0 t hd).2) ⟨_,by rw [k2];exact q3,hgh⟩ (r1.mono (ZH9 _ _)) ⟨(inv.le.trans r3).toLe0.trans (ZH9 _ _),?_,(inv.le.trans r3).new,(inv.le.trans r3).dfs⟩ ((inv.gr.trans r4).up _) fun q' k ok hq hok hcl2 hLk hne hgk hex=>?_
     · show g0.top<=(st q).2.next
       have:=inv.le.top
       rw [hhr.top] at this
       omega
     · rcases r3.new _ hex with h1|h1
       · exact inv.un q' k ok hq hok hcl2 hLk hgk h1
       · have h2:=r2.nx _ hex
         rw [hhr.top] at h1
         obtain ⟨_,ok',hok',hst'⟩:=ht.at_ q' k hq
         have:ok'=ok:=by rw [hok] at hok';exact (Option.some.inj hok').symm
         subst this
         obtain ⟨b2,ov2,hgo2,hc1,_,_⟩:=ZHJ hst'
         rw [hgk] at hgo2
         cases hgo2
         have hn2:=hc1 rfl
         rw [ZPe hcl2] at hn2
         simp only [mkR,Option.map_eq_some_iff,Prod.mk.injEq] at hn2
         obtain ⟨m,_,_,hm2⟩:=hn2
         have e2:(st (q'+1)).2.next=(st q').2.next+1:=by rw [<-hm2];rfl
         have hq2:=Am.Zaq hq
         rcases Nat.lt_trichotomy q' p with h3|h3|h3
         · have:=ht.mono hN (a:=q'+1) (b:=p) h3 Zo
           omega
         · subst h3
           rw [hpos,Option.some.injEq] at hq
           exact hne hq.symm
         · have:=ht.mono hN (a:=p+1) (b:=q') h3 Zo
           omega
end
end Go.Cm
end
section
namespace Go.Cm
attribute [local instance] wi0
variable {P:Program} {R:Option Nat} {F:ZaQ} {ops:Array Oper} {nt:Nat} {e e':Env} {h h':H} {g g0:G} {a:Act} {w w0:World}
section
variable {s:List Snap} {st:Nat->Env×H} (hp:Pl ops) (ht:Tr P F nt ops (sch ops) s st) (hz:st 0=(e,h)) (hl:st (sch ops).length=(e',h'))
 (hF:Zcv P F) (hN:ZHn F) (hck: ∀x∈s,ZJ9 ops P F (ZG9 ops s h') e' x=true)
include hp ht hz hl
theorem ZMw {listed:Array Bool} (hsz:listed.size=ops.size) (hr:Region.ready .any ops listed=[]): ∀i,i<ops.size->listed.getD i false=true:=fun i hi=>by
 cases hh:listed.getD i false with
 | true=>rfl
 | false=>
   exfalso
   obtain ⟨j,j1,j2,j3⟩:=Am.Zmv (fun i=>listed.getD i false) ops.size ⟨i,hi,hh⟩
   have ho:ops[j]? =some (ops[j]'j1):=Array.getElem?_eq_getElem _
   have hok:=hp.an j j1
   unfold ZOj at hok
   rw [ho] at hok
   simp only [Bool.and_eq_true] at hok
   have:j∈Region.ready .any ops listed:=mem_ready.2 ⟨?_,_,ho,fun ed he hb=>?_⟩
   · rw [hr] at this;cases this
   · have hjs:j<listed.size:=by omega
     simp only [Array.getD,hjs,dif_pos] at j2⊢
     exact j2
   · have:=List.all_eq_true.1 hok.1 ed (by simpa using he)
     simp only [hb,Bool.not_true,Bool.false_or,Nat.blt_eq] at this
     exact j3 _ this
theorem ZN4 {L:Nat->Bool} {E:Env} (inv:Inv P F nt ops s st e e' h' g0 w0 L E g a w) (hall: ∀i,i<ops.size->L i=true):EnvR g e' a/\HR g h' w:=by
 have hE: ∀t:Nat,E.get t=e'.get t:=fun t=>by
  by_cases hw: ∃j,ZHc ops j=some t
  ·obtain ⟨j,hj⟩:=hw
   exact inv.ep1 t j hj (hall j (ZIl hj))
  ·have hn: ∀j,ZHc ops j≠some t:=fun j hj=>hw ⟨j,hj⟩
   rw [inv.ep2 t fun j hj=>absurd hj (hn j)]
   have:=ZMj hp ht hz hl (p:=(sch ops).length) hn (Nat.le_refl _)
   rw [hl] at this
   exact this.symm
 obtain ⟨hc,h1,h2⟩:=inv.hr
 have hcnt:cE ops L=cntE ops (sch ops) (sch ops).length:=by
  unfold cE cntE
  rw [List.take_length,hp.fi]
  congr 1
  refine List.filter_eq_self.2 fun k hk=>hall k ?_
  have:=(List.mem_filter.1 hk).1
  simpa using this
 have hlast:=ht.heaps (h':=h') (sch ops).length (Nat.le_refl _) 0
 have hdrop:s.drop (sch ops).length=[]:=by rw [List.drop_of_length_le];rw [ht.len];exact Nat.le_refl _
 rw [Nat.add_zero,<-hcnt,h1,hdrop] at hlast
 simp only [ZG9,List.getElem?_cons_zero,Option.some.injEq] at hlast
 subst hlast
 exact ⟨⟨inv.env.1,fun t v hv=>inv.env.2 t v (by rw [hE t];exact hv)⟩,h2⟩
theorem ZMK {L:Nat->Bool} {E:Env} (inv:Inv P F nt ops s st e e' h' g0 w0 L E g a w) (hall: ∀i,i<ops.size->L i=true) {Q:Act->World->Prop} (hD:Done nt e' h' g0 w0 Q):Q a w:=by
 obtain ⟨h1,h2⟩:=ZN4 hp ht hz hl inv hall
 exact hD a w g h1 inv.sz h2 inv.le inv.gr
include hF hN hck
theorem ZOH (hg0:HR g0 h w0) {Q:Exit->Act->World->Prop} (hD:Done nt e' h' g0 w0 (Q .normal)): ∀(fuel:Nat) (listed:Array Bool) {E:Env} {g:G} {a:Act} {w:World},
   listed.size=ops.size->(∀(k:Nat) (o:Oper),ops[k]? =some o->listed.getD k false=true-> ∀ed∈o.after,Region.binds .any ed=true->listed.getD ed.on false=true)->listed.toList.count false<=fuel->
   Inv P F nt ops s st e e' h' g0 w0 (fun i=>listed.getD i false) E g a w->wpAnyIn (FR R) 0 P .any ops Q fuel listed a w:=by
 intro fuel
 induction fuel with
 | zero=>
   intro listed E g a w hsz hcl hc inv
   have hall: ∀i,i<ops.size->listed.getD i false=true:=fun i hi=>by
     have his:i<listed.size:=by omega
     simp only [Array.getD,his,dif_pos]
     cases hb:listed[i] with
     | true=>simp [hb]
     | false=>
       exfalso
       have:0<listed.toList.count false:=List.count_pos_iff.2 (by rw [<-hb];simp)
       omega
   refine ⟨?_,ZMK hp ht hz hl inv hall hD⟩
   refine List.eq_nil_iff_forall_not_mem.2 fun j hj=>?_
   obtain ⟨h0,o,ho,_⟩:=mem_ready.1 hj
   have hjl:=(Array.getElem?_eq_some_iff.1 ho).1
   have:=hall j hjl
   have hjs:j<listed.size:=by omega
   simp only [Array.getD,hjs,dif_pos] at h0 this
   rw [h0] at this;cases this
 | succ fuel ih=>
   intro listed E g a w hsz hcl hc inv
   refine ⟨fun hr=>ZMK hp ht hz hl inv (ZMw hp ht hz hl hsz hr) hD,fun j hj=>?_⟩
   obtain ⟨hj0,o,ho,hdep⟩:=mem_ready.1 hj
   have hjl:=(Array.getElem?_eq_some_iff.1 ho).1
   have hjs:j<listed.size:=by omega
   have hj0':listed.getD j false=false:=by
     simp only [Array.getD,hjs,dif_pos] at hj0⊢
     exact hj0
   refine ZJ3 hp ht hz hl hF hN hck inv hg0 (fun k o hk hL=>hcl k o hk hL) ho hj0' hdep fun v w' E' g' inv' _ _=>?_
   have hL:(fun k=>listed.getD k false||k==j)=fun k=>(listed.setIfInBounds j true).getD k false:=by
     funext k
     by_cases hkj:j=k
     · subst hkj
       simp [Array.getD,hjs]
     · rw [getD_set_ne false hkj]
       have:(k==j)=false:=by simp;omega
       rw [this,Bool.or_false]
   rw [hL] at inv'
   refine ih _ (by simpa using hsz) (fun k o2 ho2 hk ed he hb=>?_) ?_ inv'
   · refine getD_set_true ?_
     by_cases hkj:j=k
     · subst hkj
       rw [ho] at ho2;cases ho2
       exact hdep ed he hb
     · rw [getD_set_ne false hkj] at hk
       exact hcl k o2 ho2 hk ed he hb
   · have hlj:listed.toList[j]? =some false:=by
       simp only [Array.getD,hjs,dif_pos] at hj0
       have:listed[j]=false:=hj0
       rw [<-this];simp
     rw [Array.toList_setIfInBounds]
     have:=Am.Zt0 hlj
     omega
end
theorem ZIH {x:Env×H} (hx:runD ops P F nt e h=some x):Pl ops/\P.follows .mixedOrders=true/\ ∃s st,st 0=(e,h)/\st (sch ops).length=x/\Tr P F nt ops (sch ops) s st/\ ∀y∈s,ZJ9 ops P F (ZG9 ops s x.2) x.1 y=true:=by
 unfold runD at hx
 split at hx
 ·rename_i hc
  rw [Bool.and_eq_true] at hc
  split at hx
  ·rename_i s e' h' hr
   split at hx
   ·rename_i hall
    cases hx
    obtain ⟨st,t1,t2,t3⟩:=ZNY _ hr
    exact ⟨ZLX hc.1,hc.2,s,st,t1,t2,t3,fun y hy=>List.all_eq_true.1 hall y hy⟩
   ·cases hx
  ·cases hx
 ·cases hx
theorem ZJ6 (hN:ZHn F) {x:Env×H} (hx:runD ops P F nt e h=some x):h.next<=x.2.next:=by
 obtain ⟨_,_,s,st,t1,t2,t3,_⟩:=ZIH hx
 have:=t3.mono hN (Nat.zero_le _) (Nat.le_refl _)
 rw [t1,t2] at this
 exact this
theorem ZLZ (hF:Zcv P F) (hN:ZHn F) (hh:HR g h w) (he:EnvR g e a) (hs:nt<=a.tmps.size) (hx:runD ops P F nt e h=some (e',h')) {id:Nat} {Q:Exit->Act->World->Prop} (hD:Done nt e' h' g w (Q .normal)):
  (Code.region id ops true).wpIn (FR R) 0 P Q a w:=by
 obtain ⟨hp,hfol,s,st,hz,hl,ht,hck⟩:=ZIH hx
 refine wpIn_region_any hfol ?_
 have hh':HR g h {w with drawn:=w.drawn+1}:=hh.sameHeap rfl
 have hD':Done nt e' h' g {w with drawn:=w.drawn+1} (Q .normal):=hD.next (Le.refl g) ⟨rfl,rfl,rfl,Nat.le_refl _,fun _ _ _=>rfl,fun b hb=> .inl ⟨b,hb,rfl⟩,fun _ _=>rfl⟩
 have hgetD: ∀i,(Array.replicate ops.size false).getD i false=false:=fun i=>by
  simp only [Array.getD]
  split
  ·simp
  ·rfl
 obtain ⟨q,q1,q2,q3,q4,_⟩:=ht.heap (h':=h') (by rw [hl]) (sch ops).length 0 Zo
 refine ZOH hp ht hz hl hF hN hck hh' hD' ops.size (Array.replicate ops.size false) (E:=e) (g:=g.up (st q).2.next) Zs (fun k o _ hk=>by rw [hgetD] at hk;cases hk) (by simp [List.count_replicate]) ?_
 have hcnt:cE ops (fun i=>(Array.replicate ops.size false).getD i false)=0:=by
  unfold cE
  rw [List.length_eq_zero_iff,List.filter_eq_nil_iff]
  intro k _
  rw [hgetD]
  simp
 have h0:HR g (st 0).2 {w with drawn:=w.drawn+1}:=by rw [hz];exact hh'
 have hgh:=ZNa ht h0 (Nat.zero_le q) q2 fun r i _ h2 h3=>q4 r i (Nat.zero_le _) h2 h3
 have hle: ∀b,b<=(sch ops).length->h.next<=(st b).2.next:=fun b hb=>by
  have:=ht.mono hN (Nat.zero_le _) hb
  rw [hz] at this
  exact this
 refine ⟨⟨_,by rw [hcnt];rw [List.drop_zero] at q3;exact q3,hgh⟩,he.mono (ZH9 _ _),fun t j _ hL=>?_,fun t _=>rfl,hs,⟨ZH9 _ _,?_,fun b hb=> .inl hb,rfl⟩,(Grew.refl _ _).up _,fun p i o hpos _ _ _ _ hex=>?_⟩
 ·rw [hgetD] at hL;cases hL
 ·show g.top<=(st q).2.next
  rw [hh.top]
  exact hle q q2
 ·have h1:=hh.nx _ hex
  have:=hle p (by have:=Am.Zaq hpos;omega)
  omega
end Go.Cm
end
section
namespace Go.Cm
attribute [local instance] wi0
variable {P:Program} {R:Option Nat} {F:ZaQ} {ops:Array Oper} {nt:Nat} {e e':Env} {h h':H} {g g0:G} {a:Act} {w w' w0:World}
theorem HR.frame (hh:HR g h w) (hs:w.heap.size<=w'.heap.size) (hd: ∀b,g.pr0 b≠0->w'.heap[b]? =w.heap[b]?) (hk: ∀b,g.ex b->w'.heap[(g.β b).1]? =w.heap[(g.β b).1]?):HR g h w':=
 ⟨Nat.le_trans hh.bs hs,hh.nx,hh.top,hh.mins,hh.grp,fun b hb=>⟨(hh.blk b hb).1,Nat.lt_of_lt_of_le (hh.blk b hb).2 hs⟩,fun b o hx hb=>(hh.ob b o hx hb).mono (Le.refl g).toLe0 hx (hk b hx),hh.tl,
  fun b t n hx hb=>by rw [hk b hx];exact hh.ty b t n hx hb,hh.i1,hh.i2,hh.i4,hh.dm,⟨fun b o v ho hv=>ZIF (hd b Zo) (hh.dt.kp b o v ho hv),hh.dt.dj,fun b hb=>hh.dt.fr b (Nat.le_trans hs hb)⟩⟩
theorem HR.adopt (hh:HR g h w) {id:Nat} (hn: ¬g.ex id) (hid:id<h.next) {o:O} (ho:h.obs.get id=some o) (hc:ZJD o=false) {blk s:Nat} (hb0:g.base<=blk) (hb3:g.pr0 blk=0) (hb1:blk<w.heap.size) (hb2: ∀b,g.ex b->(g.β b).1≠blk)
  (hob:ObOK (g.grow id blk s) h.low w id o) (hty:h.tys.get id=none):HR (g.grow id blk s) h w:=by
 have hβ: ∀b,g.ex b->(g.grow id blk s).β b=g.β b:=(ZHf g hn _ s).β
 have hn1:((g.grow id blk s).β id).1=blk:=by rw [ZHa]
 have hnc: ∀{cs gr ver kid},h.obs.get id≠some (.cells cs gr ver kid):=fun {cs gr ver kid} hh=>by rw [ho] at hh;cases hh;cases hc
 have ha: ∀{k gr ver kid cs},ZHG (g.grow id blk s) h k gr ver kid cs->ZHG g h k gr ver kid cs:=fun {k gr ver kid cs} ⟨h1,h2,h3⟩=>by
  rcases h3 with h3|h3
  ·exact ⟨h1,h2,h3⟩
  ·exact absurd (by rw [<-h3];exact h1) hnc
 refine ⟨hh.bs,fun b hb=>?_,by have:=hh.top;simp only [G.grow];omega,fun k m hk=> .inl (hh.mins k m hk),fun b cs gr ver kid hx hb=>?_,fun b hb=>?_,fun b o' hx hb=>?_,hh.tl,fun b t n hx hb=>?_,fun b b' gr ver kid cs gr' ver' kid' cs' h1 h2 hnb hbb=>?_,fun b b' gr ver cs ver' kid' cs' h1 h2=>?_,fun b b' gr ver cs ver' cs' x1 x2 h1 h2=>?_,fun b o' b' x1 hb hc x2 hnb=>?_,⟨hh.dt.kp,fun b hb=>?_,hh.dt.fr⟩⟩
 ·rcases hb with hb|rfl
  ·exact hh.nx b hb
  ·exact hid
 ·rcases hx with hx|hx
  ·exact .inl (hh.grp b cs gr ver kid hx hb)
  ·rw [hx] at hb;exact absurd hb hnc
 ·rcases hb with hb|hb
  ·rw [hβ b hb];exact hh.blk b hb
  ·rw [hb,hn1];exact ⟨hb0,hb1⟩
 ·rcases hx with hx|hx
  ·exact (hh.ob b o' hx hb).mono (ZHf g hn _ s) hx rfl
  ·rw [hx,ho] at hb
   cases hb
   rw [hx];exact hob
 ·rcases hx with hx|hx
  ·rw [hβ b hx];exact hh.ty b t n hx hb
  ·rw [hx,hty] at hb;cases hb
 ·have a1:=ha h1
  have a2:=ha h2
  rw [hβ b a1.2.2,hβ b' a2.2.2] at hbb
  exact hh.i1 b b' gr ver kid cs gr' ver' kid' cs' a1 a2 hnb hbb
 ·have a1:=ha h1
  have a2:=ha h2
  rw [hβ b a1.2.2,hβ b' a2.2.2]
  exact hh.i2 b b' gr ver cs ver' kid' cs' a1 a2
 ·rcases x1 with x1|x1
  ·rcases x2 with x2|x2
   ·exact hh.i4 b b' gr ver cs ver' cs' x1 x2 h1 h2
   ·rw [x2] at h2;exact absurd h2 hnc
  ·rw [x1] at h1;exact absurd h1 hnc
 ·rcases x1 with x1|x1
  ·rw [hβ b x1]
   rcases x2 with x2|x2
   ·rw [hβ b' x2];exact hh.dm b o' b' x1 hb hc x2 hnb
   ·rw [x2,hn1];exact hb2 b x1
  ·rcases x2 with x2|x2
   ·rw [x1,hn1,hβ b' x2];exact (hb2 b' x2).symm
   ·exact absurd (x2.trans x1.symm) hnb
 ·rcases hb with hb|hb
  ·rw [hβ b hb];exact hh.dt.dj b hb
  ·rw [hb,hn1];exact hb3
theorem Grew.outside (hg:Grew g0 w0 g w) (h1:w'.os=w.os) (h2:w'.tape=w.tape) (h3:w'.output=w.output) (hs:w.heap.size<=w'.heap.size) (hk: ∀k,k<w0.heap.size->w'.heap[k]? =w.heap[k]?):Grew g0 w0 g w':=
 ⟨h1.trans hg.os,h2.trans hg.tape,h3.trans hg.output,Nat.le_trans hg.size hs,fun k hk1 hk2=>(hk k hk1).trans (hg.old k hk1 hk2),hg.img,hg.pr⟩
section
variable {k0 m t:Nat}
theorem ZHd (i:Nat):(ZG4 k0 m t ops)[i]? =(ops[i]?).map fun o=>if ZJ8 k0 m t i o then dull o else o:=by simp [ZG4,Array.getElem?_mapIdx]
theorem ZLT:(ZG4 k0 m t ops).size=ops.size:=by simp [ZG4]
structure LitPl (ops:Array Oper) (k0 m t:Nat):Prop where
 lt:k0<ops.size
 lit: ∀o,ops[k0]? =some o->ZPg o=some (m,t)
 dst: ∀i o,ops[i]? =some o->i≠k0->o.dst≠some m
 ins: ∀i o,ops[i]? =some o->i≠k0->ZLm m t o=true->ZPE k0 (ZG4 k0 m t ops) i o=true
 oth: ∀i o,ops[i]? =some o->i≠k0->ZLm m t o=false->m∉ZHX ops o
theorem ZMJ (hc:ZQJ k0 m t ops=true):LitPl ops k0 m t:=by
 unfold ZQJ at hc
 simp only [Bool.and_eq_true,Nat.blt_eq] at hc
 obtain ⟨h1,h2⟩:=hc
 have key: ∀i o,ops[i]? =some o->(if Nat.beq i k0 then ZPg o==some (m,t) else o.dst !=some m && (if ZLm m t o then ZPE k0 (ZG4 k0 m t ops) i o else !(ZHX ops o).elem m))=true:=fun i o ho=>by
  have:=List.all_eq_true.1 h1 i (List.mem_range.2 (Array.getElem?_eq_some_iff.1 ho).1)
  unfold ZOb at this
  rw [ho] at this
  exact this
 have hne: ∀i,i≠k0->Nat.beq i k0=false:=fun i hi=>by
  rw [Bool.eq_false_iff];exact fun hb=>hi (Nat.eq_of_beq_eq_true hb)
 refine ⟨h2,fun o ho=>?_,fun i o ho hi=>?_,fun i o ho hi hs=>?_,fun i o ho hi hs=>?_⟩
 ·have:=key k0 o ho
  rw [if_pos (Nat.beq_refl k0)] at this
  exact beq_iff_eq.1 this
 ·have:=key i o ho
  rw [hne i hi] at this
  simp only [Bool.false_eq_true,if_false,Bool.and_eq_true,bne_iff_ne] at this
  exact this.1
 ·have:=key i o ho
  rw [hne i hi,hs] at this
  simp only [Bool.false_eq_true,if_false,if_true,Bool.and_eq_true] at this
  exact this.2
 ·have:=key i o ho
  rw [hne i hi,hs] at this
  simp only [Bool.false_eq_true,if_false,Bool.and_eq_true,Bool.not_eq_true'] at this
  intro hm
  rw [List.elem_eq_true_of_mem hm] at this
  exact absurd this.2 Zs
theorem ZI6 {o:Oper} (hi:ZLm m t o=true): ∃k x,o.op= .insert t (.tmp m) k x/\o.guard=none/\o.dst=none:=by
 unfold ZLm at hi
 split at hi
 ·rename_i t' m' k x ho
  simp only [Bool.and_eq_true,Option.isNone_iff_eq_none] at hi
  obtain ⟨⟨⟨h1,h2⟩,h3⟩,h4⟩:=hi
  rw [Nat.eq_of_beq_eq_true h1,Nat.eq_of_beq_eq_true h2] at ho
  exact ⟨k,x,ho,h3,h4⟩
 ·cases hi
theorem ZKj {o:Oper} (hi:ZPg o=some (m,t)): ∃r,o.op= .makeMap t r/\o.dst=some m/\o.guard=none/\(r=none∨ ∃k n,r=some (.const (.int k n))):=by
 unfold ZPg at hi
 split at hi
 ·rename_i t' m' h1 h2 h3
  cases hi
  exact ⟨none,h1,h2,h3,.inl rfl⟩
 ·rename_i t' k n m' h1 h2 h3
  cases hi
  exact ⟨_,h1,h2,h3,.inr ⟨k,n,rfl⟩⟩
 ·cases hi
theorem ZH5 {e:Env}: ∀{l:List Nat} {ips:List (Nat×V×V)},l.Nodup->ZH7 m t ops e l=some ips->
   (∀p∈ips,p.1∈l/\ ∃o,ops[p.1]? =some o/\ZLm m t o=true/\prOf e o=some p.2)/\(ips.map (·.1)).Nodup/\ ∀i∈l,∀o,ops[i]? =some o->ZLm m t o=true-> ∃p,(i,p)∈ips
 | [],ips,_,hp=>by
   simp only [ZH7,Option.some.injEq] at hp
   subst hp
   exact ⟨fun p hp=>(by cases hp),List.nodup_nil,fun i hi=>(by cases hi)⟩
 | i::r,ips,hn,hp=>by
   rw [List.nodup_cons] at hn
   simp only [ZH7] at hp
   split at hp
   · rename_i o ho
     split at hp
     · rename_i his
       split at hp
       · rename_i p ps h1 h2
         cases hp
         obtain ⟨q1,q2,q3⟩:=ZH5 hn.2 h2
         refine ⟨fun p' hp'=>?_,?_,fun j hj o' ho' hs=>?_⟩
         · rcases List.mem_cons.1 hp' with rfl|hp'
           · exact ⟨by simp,o,ho,his,h1⟩
           · obtain ⟨z1,z2⟩:=q1 p' hp'
             exact ⟨List.mem_cons_of_mem _ z1,z2⟩
         · rw [List.map_cons,List.nodup_cons]
           refine ⟨fun hm=>?_,q2⟩
           obtain ⟨p',hp',he⟩:=List.mem_map.1 hm
           have:=(q1 p' hp').1
           rw [he] at this
           exact hn.1 this
         · rcases List.mem_cons.1 hj with rfl|hj
           · exact ⟨p,by simp⟩
           · obtain ⟨p',hp'⟩:=q3 j hj o' ho' hs
             exact ⟨p',List.mem_cons_of_mem _ hp'⟩
       · cases hp
     · rename_i his
       obtain ⟨q1,q2,q3⟩:=ZH5 hn.2 hp
       refine ⟨fun p' hp'=>?_,q2,fun j hj o' ho' hs=>?_⟩
       · obtain ⟨z1,z2⟩:=q1 p' hp'
         exact ⟨List.mem_cons_of_mem _ z1,z2⟩
       · rcases List.mem_cons.1 hj with rfl|hj
         · rw [ho] at ho';cases ho'
           exact absurd hs his
         · exact q3 j hj o' ho' hs
   · cases hp
theorem ZkZ {kt:Nat}: ∀{ips:List (Nat×V×V)},Zxc P kt ips=true->(∀p∈ips,ckT P DEEP kt p.2.1=true)/\ ∀p∈ips,∀q∈ips,p.1≠q.1->eqT P DEEP kt p.2.1 q.2.1=some false
 | [],_=>⟨fun p hp=>(by cases hp),fun p hp=>(by cases hp)⟩
 | x::r,hp=>by
   simp only [Zxc,Bool.and_eq_true] at hp
   obtain ⟨⟨h1,h2⟩,h3⟩:=hp
   obtain ⟨q1,q2⟩:=ZkZ h3
   have hne: ∀{a b},neqT P kt a b=true->eqT P DEEP kt a b=some false:=fun {a b} hb=>by
     unfold neqT at hb
     split at hb
     · assumption
     · cases hb
   refine ⟨fun p hp=>?_,fun p hp q hq hn=>?_⟩
   · rcases List.mem_cons.1 hp with e1|hp'
     · rw [e1];exact h1
     · exact q1 p hp'
   · rcases List.mem_cons.1 hp with e1|hp'
     · rcases List.mem_cons.1 hq with e2|hq'
       · rw [e1,e2] at hn;exact absurd rfl hn
       · have:=List.all_eq_true.1 h2 q hq'
         rw [Bool.and_eq_true] at this
         rw [e1]
         exact hne this.1
     · rcases List.mem_cons.1 hq with e2|hq'
       · have:=List.all_eq_true.1 h2 p hp'
         rw [Bool.and_eq_true] at this
         rw [e2]
         exact hne this.2
       · exact q2 p hp' q hq' hn
theorem ZKd {α:Type} {L:Nat->Bool} {j:Nat} {p:α} (hL:L j=false): ∀{l:List (Nat×α)},(l.map (·.1)).Nodup->(j,p)∈l->(l.filter fun q=>L q.1||q.1==j).Perm ((j,p)::l.filter fun q=>L q.1)
 | [],_,hm=>by cases hm
 | q::r,hn,hm=>by
   rw [List.map_cons,List.nodup_cons] at hn
   by_cases hq:q.1=j
   · have hnr: ∀x∈r,x.1≠j:=fun x hx he=>hn.1 (List.mem_map.2 ⟨x,hx,he.trans hq.symm⟩)
     have hqe:q=(j,p):=by
       rcases List.mem_cons.1 hm with h1|h1
       · exact h1.symm
       · exact absurd rfl (hnr _ h1)
     have hf:(r.filter fun q=>L q.1||q.1==j)=r.filter fun q=>L q.1:=List.filter_congr fun x hx=>by
       have:(x.1==j)=false:=by simpa using hnr x hx
       rw [this,Bool.or_false]
     rw [List.filter_cons,if_pos (by simp [hq]),hf,List.filter_cons,if_neg (by rw [hq,hL];simp),hqe]
   · have hm':(j,p)∈r:=by
       rcases List.mem_cons.1 hm with h1|h1
       · exact absurd (by rw [<-h1]) hq
       · exact h1
     have ih:=ZKd (p:=p) hL hn.2 hm'
     have hqf:(q.1==j)=false:=by simpa using hq
     rw [List.filter_cons,List.filter_cons]
     simp only [hqf,Bool.or_false]
     by_cases hLq:L q.1=true
     · rw [if_pos hLq,if_pos hLq]
       exact (ih.cons q).trans (List.Perm.swap _ _ _)
     · rw [if_neg hLq,if_neg hLq]
       exact ih
end
theorem ZKi {t:TypeId} {k:V}: ∀{es:List En},(∀en∈es,eqT P DEEP t k en.k=some false)-> ∀i,ZNf P t k es i=some none
 | [],_,_=>rfl
 | e::es,h,i=>by
   simp only [ZNf,h e Zs]
   exact ZKi (fun en hen=>h en (List.mem_cons_of_mem _ hen)) (i+1)
def Xs (ips:List (Nat×V×V)) (k0 m:Nat) (w0:World) (L:Nat->Bool) (g:G) (a:Act) (w:World):Prop:=
 L k0=true-> ∃blk ms c es,a.tmps.getD m undef= .map (some blk)/\w0.heap.size<=blk/\(blk<w.heap.size/\g.pr0 blk=0)/\(∀b,g.ex b->(g.β b).1≠blk)/\w.heap[blk]? =some (.map ms c)/\
  (es.map fun (e:En)=>(e.k,e.x)).Perm ((ips.filter fun p=>L p.1).map (·.2))/\RelEs g es ms
theorem ZL9 {k0 m t:Nat} (hq:LitPl ops k0 m t) {j:Nat} {o:Oper} (ho:ops[j]? =some o) (hlit:ZJ8 k0 m t j o=false) {K:Act->World->Prop} {Q:Exit->Act->World->Prop} (hw:wpOpIn (FR R) 0 P (ZG4 k0 m t ops) Q j K a w):wpOpIn (FR R) 0 P ops Q j K a w:=by
 have ho':(ZG4 k0 m t ops)[j]? =some o:=by rw [ZHd,ho];simp [hlit]
 have hj:j≠k0/\ZLm m t o=false:=by
   unfold ZJ8 at hlit
   rw [Bool.or_eq_false_iff] at hlit
   exact ⟨fun he=>by rw [he,Nat.beq_refl] at hlit;exact absurd hlit.1 Zs,hlit.2⟩
 unfold wpOpIn at hw⊢
 rw [ho'] at hw
 rw [ho]
 simp only at hw⊢
 have hwa:Region.wanted o (yielded (ZG4 k0 m t ops) a.tmps)=Region.wanted o (yielded ops a.tmps):=by
   unfold Region.wanted
   split
   · rfl
   · rename_i x want hg
     congr 1
     unfold yielded
     rw [ZHd]
     cases hox:ops[x]? with
     | none=>rfl
     | some ox=>
       simp only [Option.map_some,Option.bind_some]
       by_cases hx:ZJ8 k0 m t x ox=true
       · rw [if_pos hx]
         have hd:ox.dst=none:=by
           unfold ZJ8 at hx
           rw [Bool.or_eq_true] at hx
           rcases hx with hx|hx
           · have hx:=Nat.eq_of_beq_eq_true hx
             subst hx
             obtain ⟨_,_,hd,_⟩:=ZKj (hq.lit ox hox)
             refine absurd ?_ (hq.oth j o ho hj.1 hj.2)
             unfold ZHX gtmp
             rw [hg]
             simp [hox,hd]
           · obtain ⟨_,_,_,_,hd⟩:=ZI6 hx
             exact hd
         rw [hd];rfl
       · rw [if_neg hx]
 rwa [hwa] at hw
section
variable {k0 m t kt el:Nat} {ips:List (Nat×V×V)}
variable {s:List Snap} {st:Nat->Env×H} (hp:Pl (ZG4 k0 m t ops)) (ht:Tr P F nt (ZG4 k0 m t ops) (sch (ZG4 k0 m t ops)) s st) (hz:st 0=(e,h)) (hl:st (sch (ZG4 k0 m t ops)).length=(e',h'))
 (hF:Zcv P F) (hN:ZHn F) (hck: ∀x∈s,ZJ9 (ZG4 k0 m t ops) P F (ZG9 (ZG4 k0 m t ops) s h') e' x=true)
 (hq:LitPl ops k0 m t) (hem:e.get m=none) (hmt:m<nt) (hkt:P.underlying t=some (.map kt el)) (hips:ZH7 m t ops e' (List.range ops.size)=some ips) (hap:Zxc P kt ips=true)
variable {L:Nat->Bool} {E:Env}
theorem no_m (hq:LitPl ops k0 m t) (j:Nat):ZHc (ZG4 k0 m t ops) j≠some m:=by
 unfold ZHc
 rw [ZHd]
 cases ho:ops[j]? with
 | none=>simp
 | some o=>
   simp only [Option.map_some,Option.bind_some]
   by_cases hx:ZJ8 k0 m t j o=true
   · rw [if_pos hx];simp [dull]
   · rw [if_neg hx]
     refine hq.dst j o ho fun he=>hx ?_
     unfold ZJ8
     rw [he,Nat.beq_refl,Bool.true_or]
theorem Xs.keep (hX:Xs ips k0 m w0 L g a w) {i:Nat} (hi:i≠k0) (hni: ∀p∈ips,p.1≠i) {g':G} {w':World} (hl:Le0 g g') (hg:Grew g w g' w') {d:Option Tmp} (hd:d≠some m) (v:Value):Xs ips k0 m w0 (fun k=>L k||k==i) g' (a.put d v) w':=by
 intro hk
 have hk0:(k0==i)=false:=by simpa using fun he:k0=i=>hi he.symm
 simp only [hk0,Bool.or_false] at hk
 obtain ⟨blk,ms,c,es,x1,x2,⟨x3,x8⟩,x4,x5,x6,x7⟩:=hX hk
 refine ⟨blk,ms,c,es,?_,x2,⟨Nat.lt_of_lt_of_le x3 hg.size,(hg.pr blk x3).trans x8⟩,fun b hb he=>?_,(hg.old blk x3 x4).trans x5,?_,x7.mono hl⟩
 ·cases d with
  | none=>exact x1
  | some d=>rw [Am.Zbb (fun he=>hd (by rw [he]))];exact x1
 ·rcases hg.img b hb with ⟨b0,hb0,h1⟩|h1
  ·exact x4 b0 hb0 (h1.trans he)
  ·omega
 ·have:(ips.filter fun p=>L p.1||p.1==i)=ips.filter fun p=>L p.1:=List.filter_congr fun p hp=>by
   have:(p.1==i)=false:=by simpa using hni p hp
   rw [this,Bool.or_false]
  rw [this];exact x6
theorem Inv.at_m {ops':Array Oper} {L:Nat->Bool} {E:Env} {s:List Snap} {st:Nat->Env×H} (inv:Inv P F nt ops' s st e e' h' g0 w0 L E g a w) (hE:E.get m=none) (v:Value):Inv P F nt ops' s st e e' h' g0 w0 L E g (a.put (some m) v) w:=by
 refine ⟨inv.hr,⟨by rw [Am.Zb6];exact inv.env.1,fun u x hu=>?_⟩,inv.ep1,inv.ep2,by rw [Am.Zd6];exact inv.sz,inv.le,inv.gr,inv.un⟩
 have hum:u≠m:=fun he=>by rw [he,hE] at hu;cases hu
 rw [Am.Zbb hum]
 exact inv.env.2 u x hu
include hp ht hz hl hF hN hck hq hem hmt hkt hips hap
theorem ZOA (inv:Inv P F nt (ZG4 k0 m t ops) s st e e' h' g0 w0 L E g a w) (hX:Xs ips k0 m w0 L g a w) (hg0:HR g0 h w0) (hcl:Cl (ZG4 k0 m t ops) L) {i:Nat} {o:Oper} (ho:ops[i]? =some o) (hLi:L i=false) (hrd: ∀ed∈o.after,Region.binds .any ed=true->L ed.on=true)
  {K:Act->World->Prop} {Q:Exit->Act->World->Prop} (hK: ∀a' w' E' g',Inv P F nt (ZG4 k0 m t ops) s st e e' h' g0 w0 (fun k=>L k||k==i) E' g' a' w'->Xs ips k0 m w0 (fun k=>L k||k==i) g' a' w'->K a' w'):wpOpIn (FR R) 0 P ops Q i K a w:=by
 have hil:=(Array.getElem?_eq_some_iff.1 ho).1
 obtain ⟨ps1,ps2,ps3⟩:=ZH5 List.nodup_range hips
 have hEm:E.get m=none:=(inv.ep2 m fun j hj=>absurd hj (no_m hq j)).trans hem
 obtain ⟨hc,hhc,hhr⟩:=inv.hr
 have blind:ZJ8 k0 m t i o=true-> ∀w':World,HR g hc w'->Grew g0 w0 g w'->Inv P F nt (ZG4 k0 m t ops) s st e e' h' g0 w0 (fun k=>L k||k==i) E g a w':=fun hlit w' h1 h2=>by
  have ho':(ZG4 k0 m t ops)[i]? =some (dull o):=by rw [ZHd,ho];simp [hlit]
  obtain ⟨p,hpos⟩:=hp.pos (Array.getElem?_eq_some_iff.1 ho').1
  have hE:isE (ZG4 k0 m t ops) i=false:=by unfold isE;rw [ho'];rfl
  exact ZI2 hp ht hz hl inv hpos ho' (E1:=E) (ov:=none) rfl (fun _ h=>by cases h) (g':=g) (w':=w') (v:=undef) ⟨hc,by rw [ZIU hp ht hz hl hE];exact hhc,h1⟩ inv.env inv.le h2 fun q k ok hq hok hc hL _ hg=>inv.un q k ok hq hok hc hL hg
 by_cases hi0:i=k0
 ·subst hi0
  obtain ⟨r,hop,hdst,hgu,hr⟩:=ZKj (hq.lit o ho)
  have hmk:mkV P E o.op=some (fun _=> .map [] 0,fun i=> .map i,none):=by
   rw [hop]
   rcases hr with rfl|⟨k,n,rfl⟩<;>simp [mkV,hkt,optV,ev,ofConst]
  obtain ⟨rv,ob,sz,m1,m2,m3,_⟩:=ZOL hhr inv.env hmk
  have e1:rv= .map (some w.heap.size):=by
   have:=m3 hc.next
   simp only [Rel,ZHa] at this
   exact this.2
  obtain ⟨ms,z1,z2,_⟩:=m2 hc.next (fun _=>0) hhr.fresh
  rw [ZHa] at z1
  have z2':RelEs g [] ms:=⟨z2.1,fun i e he=>by simp at he⟩
  unfold wpOpIn
  rw [ho]
  simp only [Region.wanted,hgu,if_true]
  refine ZKg m1 (.inl ⟨_,rfl⟩) ?_
  show K (a.put o.dst rv) (w.alloc ob)
  rw [hdst,e1]
  have hfr:HR g hc (w.alloc ob):=hhr.frame (by show _<=(w.heap.push ob).size;simp) (fun b hb=>by
   show (w.heap.push ob)[_]? =_
   rw [Array.getElem?_push,if_neg (fun he=>hb (by rw [he];exact hhr.dt.fr _ (Nat.le_refl _)))]) fun b hb=>by
   show (w.heap.push ob)[_]? =_
   rw [Array.getElem?_push,if_neg (Nat.ne_of_lt (hhr.blk b hb).2)]
  have hgr:Grew g0 w0 g (w.alloc ob):=inv.gr.outside rfl rfl rfl (by show _<=(w.heap.push ob).size;simp) fun k hk=>by
   show (w.heap.push ob)[_]? =_
   have:=inv.gr.size
   rw [Array.getElem?_push,if_neg Zo]
  refine hK _ _ E g ((blind (by simp [ZJ8]) _ hfr hgr).at_m hEm _) fun _=>⟨w.heap.size,ms,0,[],?_,inv.gr.size,?_,fun b hb=>Nat.ne_of_lt (hhr.blk b hb).2,z1,?_,z2'⟩
  ·exact Am.Zbe (Nat.lt_of_lt_of_le hmt inv.sz)
  ·exact ⟨by show _<(w.heap.push ob).size;simp,hhr.dt.fr _ (Nat.le_refl _)⟩
  ·have:(ips.filter fun p=>L p.1||p.1==i)=[]:=List.filter_eq_nil_iff.2 fun p hp'=>by
    obtain ⟨q1,o2,q2,q3,_⟩:=ps1 p hp'
    have hpi:p.1≠i:=fun he=>by
     rw [he,ho] at q2;cases q2
     obtain ⟨_,_,hop2,_⟩:=ZI6 q3
     rw [hop] at hop2;cases hop2
    have hpi':(p.1==i)=false:=by simpa using hpi
    rw [hpi',Bool.or_false]
    intro hLp
    have hin:=hq.ins p.1 o2 q2 hpi q3
    unfold ZPE at hin
    split at hin
    ·rw [Bool.and_eq_true] at hin
     have ho2:(ZG4 i m t ops)[p.1]? =some (dull o2):=by rw [ZHd,q2];simp [ZJ8,q3]
     have:=ZG5 hp hcl p.1 _ ho2 (fun ed h1 h2=>hcl p.1 _ ho2 hLp ed h1 h2) i hin.1
     rw [hLi] at this;cases this
    ·cases hin
   rw [this];exact List.Perm.nil
 ·by_cases hins:ZLm m t o=true
  ·obtain ⟨k,x,hop,hgu,hdst⟩:=ZI6 hins
   have hin:=hq.ins i o ho hi0 hins
   unfold ZPE at hin
   rw [show ZQt o.op=some (k,x) by rw [hop];rfl] at hin
   simp only [Bool.and_eq_true] at hin
   obtain ⟨c1,c2⟩:=hin
   have hlit:ZJ8 k0 m t i o=true:=by unfold ZJ8;rw [hins,Bool.or_true]
   have ho':(ZG4 k0 m t ops)[i]? =some (dull o):=by rw [ZHd,ho];simp [hlit]
   have hLk:L k0=true:=ZG5 hp hcl i _ ho' hrd k0 c1
   obtain ⟨blk,ms,c,es,x1,x2,⟨x3,x8⟩,x4,x5,x6,x7⟩:=hX hLk
   obtain ⟨p,hpm⟩:=ps3 i (List.mem_range.2 hil) o ho hins
   obtain ⟨_,o2,q2,q3,q4⟩:=ps1 _ hpm
   rw [ho] at q2;cases q2
   have hget: ∀u∈ZIA [k,x],E.get u=e'.get u:=fun u hu=>by
    by_cases hw: ∃j,ZHc (ZG4 k0 m t ops) j=some u
    ·obtain ⟨j,hj⟩:=hw
     have:=List.all_eq_true.1 (List.all_eq_true.1 c2 u hu) j (List.mem_range.2 (ZIl hj))
     simp only [hj,bne_self_eq_false,Bool.false_or] at this
     exact inv.ep1 u j hj (ZG5 hp hcl i _ ho' hrd j this)
    ·have hn: ∀j,ZHc (ZG4 k0 m t ops) j≠some u:=fun j hj=>hw ⟨j,hj⟩
     rw [inv.ep2 u fun j hj=>absurd hj (hn j)]
     have:=ZMj hp ht hz hl (p:=(sch (ZG4 k0 m t ops)).length) hn (Nat.le_refl _)
     rw [hl] at this
     exact this.symm
   have hevk:ev E k=ev e' k:=by
    cases k with
    | tmp u=>exact hget u (by simp [ZIA])
    | _=>rfl
   have hevx:ev E x=ev e' x:=by
    cases x with
    | tmp u=>exact hget u (by cases k<;>simp [ZIA])
    | _=>rfl
   unfold prOf at q4
   rw [show ZQt o.op=some (k,x) by rw [hop];rfl] at q4
   simp only at q4
   split at q4
   ·rename_i va vb hva hvb
    cases q4
    have hk:=ZG2 inv.env (hevk.trans hva)
    have hx:=ZG2 inv.env (hevx.trans hvb)
    obtain ⟨ap1,ap2⟩:=ZkZ hap
    have hne: ∀en∈es,eqT P DEEP kt va en.k=some false:=fun en hen=>by
     have h1:(en.k,en.x)∈es.map fun (e:En)=>(e.k,e.x):=List.mem_map.2 ⟨en,hen,rfl⟩
     obtain ⟨q,hq1,hq2⟩:=List.mem_map.1 (x6.mem_iff.1 h1)
     obtain ⟨hq3,hq4⟩:=List.mem_filter.1 hq1
     have:=ap2 _ hpm q hq3 fun he=>by
      have he:i=q.1:=he
      rw [<-he] at hq4;simp only [hLi] at hq4;cases hq4
     rw [hq2] at this
     exact this
    have hs:ZMC P kt va es=some none:=by
     unfold ZMC
     rw [if_pos (ap1 _ hpm)]
     exact ZKi hne 0
    obtain ⟨hck,r',hf,hn⟩:=ZHY (P:=P) (w:=w) hk x7 hs
    simp only at hn
    subst hn
    have hrun:(Instr.mapUpdate t (.map (some blk)) (a.eval k) (a.eval x)).run P w= .ok () {w with heap:=w.heap.setIfInBounds blk (.map (ms.push {key:=a.eval k,val:=a.eval x,born:=c}) (c+1))}:=by
     unfold Instr.mapUpdate
     simp only [Sem.run_bind,run_underlying hkt,Result.andThen_ok,Go.MapKept.run_getObj_map x5,hck,hf,Sem.run_pure,Go.MapKept.run_setObj_map _ x5]
    have hm:a.eval (.tmp m)= .map (some blk):=x1
    unfold wpOpIn
    rw [ho]
    simp only [Region.wanted,hgu,if_true]
    have hex:(execOp a.eval o).run P w= .ok .skip {w with heap:=w.heap.setIfInBounds blk (.map (ms.push {key:=a.eval k,val:=a.eval x,born:=c}) (c+1))}:=by
     simp only [execOp,hop,hm]
     rw [Sem.run_bind,hrun,Result.andThen_ok];rfl
    refine ZOp hex ?_
    generalize hw':({w with heap:=w.heap.setIfInBounds blk (.map (ms.push {key:=a.eval k,val:=a.eval x,born:=c}) (c+1))}:World)=w'
    have hwh:w'.heap=w.heap.setIfInBounds blk (.map (ms.push {key:=a.eval k,val:=a.eval x,born:=c}) (c+1)):=by rw [<-hw']
    show K (a.put o.dst undef) w'
    rw [hdst]
    have hfr:HR g hc w':=hhr.frame (by rw [hwh];simp) (fun b hb=>by rw [hwh,Array.getElem?_setIfInBounds,if_neg (fun he=>hb (by rw [<-he];exact x8))]) fun b hb=>by
     rw [hwh,Array.getElem?_setIfInBounds,if_neg (fun he=>x4 b hb he.symm)]
    have hgr:Grew g0 w0 g w':=inv.gr.outside (by rw [<-hw']) (by rw [<-hw']) (by rw [<-hw']) (by rw [hwh];simp) fun k hk=>by
     rw [hwh,Array.getElem?_setIfInBounds,if_neg Zo]
    refine hK a w' E g (blind hlit _ hfr hgr) fun _=>⟨blk,_,c+1,es++[⟨va,vb,c⟩],x1,x2,⟨by rw [hwh];simpa using x3,x8⟩,x4,by rw [hwh,Array.getElem?_setIfInBounds,if_pos rfl,if_pos x3],?_,?_⟩
    ·rw [List.map_append,List.map_cons,List.map_nil]
     refine (List.perm_append_singleton _ _).trans ?_
     have:=(ZKd (L:=L) hLi ps2 hpm).map fun q=>q.2
     exact ((x6.cons _).trans this.symm)
    ·refine ⟨by simp [x7.1],fun j en hen=>?_⟩
     rw [Array.getElem?_push]
     rw [List.getElem?_append] at hen
     split at hen
     ·rename_i hj
      rw [if_neg (by have:=x7.1;omega)]
      exact x7.2 j en hen
     ·rename_i hj
      have hj0:j-es.length=0:=by
       have:=Am.Zaq hen
       simpa using this
      rw [hj0] at hen
      simp at hen
      subst hen
      have:=x7.1
      rw [if_pos Zo]
      exact ⟨_,rfl,hk,hx,rfl⟩
   ·cases q4
  ·have hins:ZLm m t o=false:=by simpa using hins
   have hlit:ZJ8 k0 m t i o=false:=by
    unfold ZJ8
    rw [hins,Bool.or_false,Bool.eq_false_iff]
    exact fun hb=>hi0 (Nat.eq_of_beq_eq_true hb)
   have ho':(ZG4 k0 m t ops)[i]? =some o:=by rw [ZHd,ho];simp [hlit]
   refine ZL9 hq ho hlit (ZJ3 hp ht hz hl hF hN hck inv hg0 hcl ho' hLi hrd fun v w' E' g' inv' r1 r2=>hK _ w' E' g' inv' ?_)
   refine hX.keep hi0 (fun p hp' he=>?_) r1 r2 (hq.dst i o ho hi0) v
   obtain ⟨_,o2,q2,q3,_⟩:=ps1 p hp'
   rw [he,ho] at q2;cases q2
   rw [hins] at q3;cases q3
omit hF hN hck hmt hkt hap hem in
theorem ZMR (inv:Inv P F nt (ZG4 k0 m t ops) s st e e' h' g0 w0 L E g a w) (hX:Xs ips k0 m w0 L g a w) (hg0:HR g0 h w0) (hall: ∀i,i<ops.size->L i=true) {Q:Act->World->Prop} (hD:Done nt (e'.set m (.map h'.next)) (h'.new (.mapU (ips.map (·.2)))) g0 w0 Q):Q a w:=by
 obtain ⟨h1,h2⟩:=ZN4 hp ht hz hl inv fun i hi=>hall i (by rw [ZLT] at hi;exact hi)
 obtain ⟨ps1,_,_⟩:=ZH5 List.nodup_range hips
 obtain ⟨blk,ms,c,es,x1,x2,⟨x3,x8⟩,x4,x5,x6,x7⟩:=hX (hall k0 hq.lt)
 have hfl:(ips.filter fun p=>L p.1)=ips:=List.filter_eq_self.2 fun p hp=>hall p.1 (by have:=(ps1 p hp).1;simpa using this)
 rw [hfl] at x6
 have hun: ¬(g.up (h'.next+1)).ex h'.next:=h2.fresh
 have hle:Le0 g ((g.up (h'.next+1)).grow h'.next blk 0):=(ZH9 g _).trans (ZHf _ hun _ _)
 have hr:=(h2.ghost (.mapU (ips.map (·.2))) none).adopt (o:= .mapU (ips.map (·.2))) hun (Nat.lt_succ_self _) (by rw [ZLn,if_pos rfl]) rfl (blk:=blk) (s:=0) (by
  show g.base<=blk
  rw [inv.le.base]
  exact Nat.le_trans hg0.bs x2) x8 x3 x4 ⟨ms,c,es,by rw [ZHa];exact x5,x6,x7.mono hle,by rw [ZHa]⟩ (ZJo h2 _ none)
 refine hD a w ((g.up (h'.next+1)).grow h'.next blk 0) ⟨h1.1,fun u v hv=>?_⟩ inv.sz hr ⟨inv.le.toLe0.trans hle,?_,fun b hb=>?_,inv.le.dfs⟩ ⟨inv.gr.os,inv.gr.tape,inv.gr.output,inv.gr.size,inv.gr.old,fun b hb=>?_,inv.gr.pr⟩
 ·rw [T.get_set] at hv
  split at hv
  ·rename_i hu
   cases hv
   rw [hu,x1]
   simp only [Rel]
   exact ⟨.inr rfl,by rw [ZHa]⟩
  ·exact (h1.2 u v hv).mono hle
 ·have:=inv.le.top
  have:=h2.top
  simp only [G.grow,G.up]
  omega
 ·rcases hb with hb|hb
  ·exact inv.le.new b hb
  ·right
   rw [hb,<-h2.top]
   exact inv.le.top
 ·rcases hb with hb|hb
  ·rcases inv.gr.img b hb with ⟨b0,q1,q2⟩|q1
   ·exact .inl ⟨b0,q1,by rw [hle.β b hb];exact q2⟩
   ·exact .inr (by rw [hle.β b hb];exact q1)
  ·exact .inr (by rw [hb,ZHa];exact x2)
end
theorem ZKa {n1 i:Nat} (hi:i<n1):(pre n1 ops)[i]? =ops[i]? :=by
 unfold pre
 rw [List.getElem?_toArray,List.getElem?_take,if_pos hi,Array.getElem?_toList]
theorem ZOJ {n1 i:Nat} (hi:n1<=i):(pre n1 ops)[i]? =none:=by
 unfold pre
 rw [List.getElem?_toArray,List.getElem?_take,if_neg Zo]
theorem ZOV {n1:Nat} (hn:n1<=ops.size):(pre n1 ops).size=n1:=by
 unfold pre
 simp
 omega
theorem ZOW {a b:Nat} (h:Nat.blt a b=true):a<b:=by rwa [Nat.blt_eq] at h
structure Tl (n1:Nat) (ops:Array Oper):Prop where
 le:n1<=ops.size
 gu: ∀i o j b,ops[i]? =some o->i<n1->o.guard=some (j,b)->j<n1
 bi: ∀i o j,ops[i]? =some o->n1<=i->j<i-> ∃ed∈o.after,ed.on=j/\Region.binds .any ed=true
 on: ∀i o,ops[i]? =some o->n1<=i-> ∀ed∈o.after,Region.binds .any ed=true->ed.on<i
theorem ZLG {n1:Nat} (hc:ZOi n1 ops=true):Tl n1 ops:=by
 unfold ZOi at hc
 rw [Bool.and_eq_true] at hc
 obtain ⟨h1,h2⟩:=hc
 have key: ∀i o,ops[i]? =some o->(if Nat.blt i n1 then (match o.guard with|some (j,_)=>Nat.blt j n1|none=>true) else (List.range i).all (fun j=>o.after.any fun ed=>Nat.beq ed.on j && Region.binds .any ed) && o.after.all fun ed=> !Region.binds .any ed||Nat.blt ed.on i)=true:=fun i o ho=>by
  have:=List.all_eq_true.1 h2 i (List.mem_range.2 (Array.getElem?_eq_some_iff.1 ho).1)
  rw [ho] at this
  exact this
 have hno: ∀i,n1<=i->Nat.blt i n1=false:=fun i hi=>by
  rw [Bool.eq_false_iff]
  intro hb
  have:=ZOW hb
  omega
 refine ⟨Nat.le_of_ble_eq_true h1,fun i o j b ho hi hg=>?_,fun i o j ho hi hj=>?_,fun i o ho hi ed he hb=>?_⟩
 ·have:=key i o ho
  rw [if_pos (show Nat.blt i n1=true by rw [Nat.blt_eq];exact hi),hg] at this
  exact ZOW this
 ·have:=key i o ho
  rw [hno i hi] at this
  simp only [Bool.false_eq_true,if_false,Bool.and_eq_true] at this
  have:=List.all_eq_true.1 this.1 j (List.mem_range.2 hj)
  rw [Array.any_eq_true] at this
  obtain ⟨x,hx,hb⟩:=this
  rw [Bool.and_eq_true] at hb
  exact ⟨o.after[x],Array.getElem_mem hx,Nat.eq_of_beq_eq_true hb.1,hb.2⟩
 ·have:=key i o ho
  rw [hno i hi] at this
  simp only [Bool.false_eq_true,if_false,Bool.and_eq_true] at this
  have h3:=this.2
  rw [Array.all_eq_true] at h3
  obtain ⟨x,hx,rfl⟩:=Array.getElem_of_mem he
  have:=h3 x hx
  simp only [hb,Bool.not_true,Bool.false_or] at this
  exact ZOW this
theorem ZOY {n1:Nat} (ht:Tl n1 ops) {j:Nat} (hj:j<n1) {K:Act->World->Prop} {Q:Exit->Act->World->Prop} (hw:wpOpIn (FR R) 0 P (pre n1 ops) Q j K a w):wpOpIn (FR R) 0 P ops Q j K a w:=by
 unfold wpOpIn at hw⊢
 rw [ZKa hj] at hw
 cases ho:ops[j]? with
 | none=>rw [ho] at hw;exact hw
 | some o=>
   rw [ho] at hw
   simp only at hw⊢
   have hwa:Region.wanted o (yielded (pre n1 ops) a.tmps)=Region.wanted o (yielded ops a.tmps):=by
     unfold Region.wanted
     split
     · rfl
     · rename_i x want hg
       unfold yielded
       rw [ZKa (ht.gu j o x want ho hj hg)]
   rwa [hwa] at hw
def Upto (ops:Array Oper) (k:Nat) (listed:Array Bool):Prop:=listed.size=ops.size/\ ∀i,i<ops.size->listed.getD i false=decide (i<k)
theorem ZI5 {listed:Array Bool} {i:Nat} (hi:i<listed.size) (x y:Bool):listed.getD i x=listed.getD i y:=by simp [Array.getD,hi]
theorem ZOU (hF:Zcv P F) {n1:Nat} (ht:Tl n1 ops) {Q:Exit->Act->World->Prop}: ∀(n k:Nat) {g:G} {e:Env} {a:Act} {w:World} {h:H} {listed:Array Bool},k+n=ops.size->n1<=k->Upto ops k listed->HR g h w->EnvR g e a->nt<=a.tmps.size->
   runV P F nt ops (ops.toList.drop k) e h=some (e',h')->Done nt e' h' g w (Q .normal)-> ∀fuel,n<=fuel->wpAnyIn (FR R) 0 P .any ops Q fuel listed a w:=by
 intro n
 induction n with
 | zero=>
   intro k g e a w h listed hk h1 hu hh he hs hx hD fuel _
   have hdrop:ops.toList.drop k=[]:=by rw [List.drop_of_length_le];simp;omega
   rw [hdrop] at hx
   simp only [runV,Option.some.injEq,Prod.mk.injEq] at hx
   obtain ⟨rfl,rfl⟩:=hx
   have hq:=hD a w g he hs hh (Le.refl g) (Grew.refl _ _)
   have hr:Region.ready .any ops listed=[]:=List.eq_nil_iff_forall_not_mem.2 fun j hj=>by
     obtain ⟨h0,o,ho,_⟩:=mem_ready.1 hj
     have hjl:=(Array.getElem?_eq_some_iff.1 ho).1
     have:=hu.2 j hjl
     rw [ZI5 (by rw [hu.1];exact hjl) false true,h0] at this
     simp at this
     omega
   cases fuel with
   | zero=>exact ⟨hr,hq⟩
   | succ f=>exact ⟨fun _=>hq,fun j hj=>by rw [hr] at hj;cases hj⟩
 | succ n ih=>
   intro k g e a w h listed hk h1 hu hh he hs hx hD fuel hf
   obtain ⟨f,rfl⟩: ∃f,fuel=f+1:=⟨fuel-1,by omega⟩
   have hkl:k<ops.size:=by omega
   have ho:ops[k]? =some (ops[k]'hkl):=Array.getElem?_eq_getElem _
   have hdrop:ops.toList.drop k=ops[k]'hkl::ops.toList.drop (k+1):=by
     rw [List.drop_eq_getElem_cons (by simpa using hkl)];simp
   rw [hdrop] at hx
   simp only [runV] at hx
   split at hx
   · rename_i e1 h1' hst
     have hkr:k∈Region.ready .any ops listed:=mem_ready.2 ⟨by
       have:=hu.2 k hkl
       rw [ZI5 (by rw [hu.1];exact hkl) false true] at this
       simpa using this,_,ho,fun ed he hb=>by
         have hlt:=ht.on k _ ho h1 ed he hb
         have:=hu.2 ed.on Zo
         simpa [hlt] using this⟩
     refine ⟨fun hr=>(by rw [hr] at hkr;cases hkr),fun j hj=>?_⟩
     obtain ⟨h0,o,hoj,hdep⟩:=mem_ready.1 hj
     have hjl:=(Array.getElem?_eq_some_iff.1 hoj).1
     have hjk:k<=j:=by
       have:=hu.2 j hjl
       rw [ZI5 (by rw [hu.1];exact hjl) false true,h0] at this
       simpa using this
     have hje:j=k:=by
       rcases Nat.lt_or_ge k j with hlt|hge
       · obtain ⟨ed,e1,e2,e3⟩:=ht.bi j o k hoj Zo hlt
         have h2:=hdep ed e1 e3
         rw [e2] at h2
         have:=hu.2 k hkl
         rw [h2] at this
         simp at this
       · omega
     subst hje
     refine ZyK hF hh he hs ho hst fun v w' g' r1 r2 r3 r4=>?_
     refine ih (j+1) Zo Zo ⟨by simpa using hu.1,fun i hi=>?_⟩ r2 r1 (by rw [Am.Zd6];exact hs) hx (hD.next r3 r4) f Zo
     by_cases hij:j=i
     · subst hij
       simp [Array.getD,hu.1,hi]
     · rw [getD_set_ne false hij,hu.2 i hi]
       congr 1
       simp only [eq_iff_iff]
       omega
   · cases hx
section
variable {k0 m t kt el n1:Nat} {ips:List (Nat×V×V)}
variable {s:List Snap} {st:Nat->Env×H} (htl:Tl n1 ops) (hp:Pl (ZG4 k0 m t (pre n1 ops))) (ht:Tr P F nt (ZG4 k0 m t (pre n1 ops)) (sch (ZG4 k0 m t (pre n1 ops))) s st) (hz:st 0=(e,h)) (hl:st (sch (ZG4 k0 m t (pre n1 ops))).length=(e',h'))
 (hF:Zcv P F) (hN:ZHn F) (hck: ∀x∈s,ZJ9 (ZG4 k0 m t (pre n1 ops)) P F (ZG9 (ZG4 k0 m t (pre n1 ops)) s h') e' x=true)
 (hq:LitPl (pre n1 ops) k0 m t) (hem:e.get m=none) (hmt:m<nt) (hkt:P.underlying t=some (.map kt el)) (hips:ZH7 m t (pre n1 ops) e' (List.range (pre n1 ops).size)=some ips) (hap:Zxc P kt ips=true)
include htl hp ht hz hl hF hN hck hq hem hmt hkt hips hap
theorem ZPL (hg0:HR g0 h w0) {e2:Env} {h2:H} (hx:runV P F nt ops (ops.toList.drop n1) (e'.set m (.map h'.next)) (h'.new (.mapU (ips.map (·.2))))=some (e2,h2)) {Q:Exit->Act->World->Prop} (hD:Done nt e2 h2 g0 w0 (Q .normal)): ∀(fuel:Nat) (listed:Array Bool) {E:Env} {g:G} {a:Act} {w:World},
   listed.size=ops.size->(∀(k:Nat) (o:Oper),ops[k]? =some o->listed.getD k false=true-> ∀ed∈o.after,Region.binds .any ed=true->listed.getD ed.on false=true)->(∀i,n1<=i->listed.getD i false=false)->(listed.toList.take n1).count false+(ops.size-n1)<=fuel->
   Inv P F nt (ZG4 k0 m t (pre n1 ops)) s st e e' h' g0 w0 (fun i=>listed.getD i false) E g a w->Xs ips k0 m w0 (fun i=>listed.getD i false) g a w->wpAnyIn (FR R) 0 P .any ops Q fuel listed a w:=by
 have hsp:(pre n1 ops).size=n1:=ZOV htl.le
 have hD2:Done nt (e'.set m (.map h'.next)) (h'.new (.mapU (ips.map (·.2)))) g0 w0 fun a w=> ∀fuel,ops.size-n1<=fuel-> ∀listed,Upto ops n1 listed->wpAnyIn (FR R) 0 P .any ops Q fuel listed a w:=fun a' w' g' r1 r2 r3 r4 r5 fuel hf listed hu=>
   ZOU hF htl (ops.size-n1) n1 (by have:=htl.le;omega) (Nat.le_refl _) hu r3 r1 r2 hx (hD.next r4 r5) fuel hf
 intro fuel
 induction fuel with
 | zero=>
   intro listed E g a w hsz hcl htail hc inv hX
   have hall: ∀i,i<n1->listed.getD i false=true:=fun i hi=>by
     have his:i<listed.size:=by have:=htl.le;omega
     cases hb:listed.getD i false with
     | true=>rfl
     | false=>
       exfalso
       simp only [Array.getD,his,dif_pos] at hb
       have hb:listed[i]=false:=hb
       have:0<(listed.toList.take n1).count false:=List.count_pos_iff.2 (List.mem_of_getElem? (i:=i) (by rw [List.getElem?_take,if_pos hi,Array.getElem?_toList,Array.getElem?_eq_getElem his,hb]))
       omega
   exact ZMR hp ht hz hl hq hips inv hX hg0 (fun i hi=>hall i Zo) hD2 0 Zo listed ⟨hsz,fun i hi=>by
     by_cases h1:i<n1
     · rw [hall i h1];simp [h1]
     · rw [htail i Zo];simp [h1]⟩
 | succ fuel ih=>
   intro listed E g a w hsz hcl htail hc inv hX
   by_cases hall: ∀i,i<n1->listed.getD i false=true
   · exact ZMR hp ht hz hl hq hips inv hX hg0 (fun i hi=>hall i Zo) hD2 (fuel+1) Zo listed ⟨hsz,fun i hi=>by
       by_cases h1:i<n1
       · rw [hall i h1];simp [h1]
       · rw [htail i Zo];simp [h1]⟩
   · refine ⟨fun hr=>?_,fun j hj=>?_⟩
     · exfalso
       obtain ⟨i,hi⟩:=Classical.not_forall.1 hall
       obtain ⟨hi,hif⟩:=Classical.not_imp.1 hi
       obtain ⟨j,j1,j2,j3⟩:=Am.Zmv (fun i=>listed.getD i false) n1 ⟨i,hi,by simpa using hif⟩
       have hjl:j<ops.size:=by have:=htl.le;omega
       have ho:ops[j]? =some (ops[j]'hjl):=Array.getElem?_eq_getElem _
       have ho':(ZG4 k0 m t (pre n1 ops))[j]? =some (if ZJ8 k0 m t j (ops[j]'hjl) then dull (ops[j]'hjl) else ops[j]'hjl):=by rw [ZHd,ZKa j1,ho];rfl
       have hok:=hp.an j (Array.getElem?_eq_some_iff.1 ho').1
       unfold ZOj at hok
       rw [ho'] at hok
       simp only [Bool.and_eq_true] at hok
       have haf:(if ZJ8 k0 m t j (ops[j]'hjl) then dull (ops[j]'hjl) else ops[j]'hjl).after=(ops[j]'hjl).after:=by split<;>rfl
       have:j∈Region.ready .any ops listed:=mem_ready.2 ⟨by
         rw [ZI5 Zo true false];exact j2,_,ho,fun ed he hb=>by
           have:=List.all_eq_true.1 hok.1 ed (by rw [haf];simpa using he)
           simp only [hb,Bool.not_true,Bool.false_or,Nat.blt_eq] at this
           exact j3 _ this⟩
       rw [hr] at this;cases this
     · obtain ⟨hj0,o,ho,hdep⟩:=mem_ready.1 hj
       have hjl:=(Array.getElem?_eq_some_iff.1 ho).1
       have hjs:j<listed.size:=by omega
       have hj0':listed.getD j false=false:=by rw [ZI5 hjs false true];exact hj0
       have hjn:j<n1:=by
         rcases Nat.lt_or_ge j n1 with h1|h1
         · exact h1
         · exfalso
           refine hall fun i hi=>?_
           obtain ⟨ed,q1,q2,q3⟩:=htl.bi j o i ho h1 Zo
           have:=hdep ed q1 q3
           rwa [q2] at this
       have hcl':Cl (ZG4 k0 m t (pre n1 ops)) fun i=>listed.getD i false:=fun k o2 hk hL ed he hb=>by
         rw [ZHd] at hk
         rcases Nat.lt_or_ge k n1 with hkn|hkn
         · rw [ZKa hkn] at hk
           cases hok:ops[k]? with
           | none=>rw [hok] at hk;cases hk
           | some o3=>
             rw [hok] at hk
             simp only [Option.map_some,Option.some.injEq] at hk
             have haf:o2.after=o3.after:=by rw [<-hk];split<;>rfl
             exact hcl k o3 hok hL ed (by rw [<-haf];exact he) hb
         · rw [ZOJ hkn] at hk;cases hk
       refine ZOY htl hjn (ZOA hp ht hz hl hF hN hck hq hem hmt hkt hips hap inv hX hg0 hcl' (by rw [ZKa hjn];exact ho) hj0' hdep fun a' w' E' g' inv' hX'=>?_)
       have hL:(fun k=>listed.getD k false||k==j)=fun k=>(listed.setIfInBounds j true).getD k false:=by
         funext k
         by_cases hkj:j=k
         · subst hkj
           simp [Array.getD,hjs]
         · rw [getD_set_ne false hkj]
           have:(k==j)=false:=by simp;omega
           rw [this,Bool.or_false]
       rw [hL] at inv' hX'
       refine ih _ (by simpa using hsz) (fun k o2 ho2 hk ed he hb=>?_) (fun i hi=>?_) ?_ inv' hX'
       · refine getD_set_true ?_
         by_cases hkj:j=k
         · subst hkj
           rw [ho] at ho2;cases ho2
           exact hdep ed he hb
         · rw [getD_set_ne false hkj] at hk
           exact hcl k o2 ho2 hk ed he hb
       · rw [getD_set_ne false Zo]
         exact htail i hi
       · have hlj:(listed.toList.take n1)[j]? =some false:=by
           simp only [Array.getD,hjs,dif_pos] at hj0
           have:listed[j]=false:=hj0
           rw [List.getElem?_take,if_pos hjn,Array.getElem?_toList,Array.getElem?_eq_getElem hjs,this]
         rw [Array.toList_setIfInBounds,List.take_set]
         have:=Am.Zt0 hlj
         omega
end
theorem ZLv {x:Env×H} (hx:runL ops P F nt e h=some x): ∃n1 k0 m t kt el e' h' ips,Tl n1 ops/\LitPl (pre n1 ops) k0 m t/\e.get m=none/\m<nt/\P.underlying t=some (.map kt el)/\runD (ZG4 k0 m t (pre n1 ops)) P F nt e h=some (e',h')/\ZH7 m t (pre n1 ops) e' (List.range (pre n1 ops).size)=some ips/\Zxc P kt ips=true/\
  runV P F nt ops (ops.toList.drop n1) (e'.set m (.map h'.next)) (h'.new (.mapU (ips.map (·.2))))=some x:=by
 unfold runL at hx
 split at hx
 ·rename_i k0 m t _
  split at hx
  ·rename_i htl
   split at hx
   ·rename_i e1 h1 hr1
    unfold ZRp at hr1
    split at hr1
    ·rename_i hc
     simp only [Bool.and_eq_true,Option.isNone_iff_eq_none,Nat.blt_eq] at hc
     split at hr1
     ·rename_i kt el hkt
      split at hr1
      ·rename_i e' h' hr
       split at hr1
       ·rename_i ips hi
        split at hr1
        ·rename_i ha
         cases hr1
         exact ⟨_,k0,m,t,kt,el,e',h',ips,ZLG htl,ZMJ hc.1.1,hc.1.2,hc.2,hkt,hr,hi,ha,hx⟩
        ·cases hr1
       ·cases hr1
      ·cases hr1
     ·cases hr1
    ·cases hr1
   ·cases hx
  ·cases hx
 ·cases hx
theorem ZKl (hF:ZHn F): ∀(l:List Oper) {e:Env} {h:H} {x:Env×H},runV P F nt ops l e h=some x->h.next<=x.2.next
 | [],e,h,x,hx=>by
   simp only [runV,Option.some.injEq] at hx
   subst hx;exact Nat.le_refl _
 | o::l,e,h,x,hx=>by
   simp only [runV] at hx
   split at hx
   · rename_i e1 h1 hst
     refine Nat.le_trans ?_ (ZKl hF l hx)
     obtain ⟨b,ov,_,h2,h3,_⟩:=ZHJ hst
     cases b with
     | true=>exact ZKR hF (h2 rfl)
     | false=>
       have h4:h1=h:=(h3 rfl).2
       rw [h4];exact Nat.le_refl _
   · cases hx
theorem ZNA (hN:ZHn F) {x:Env×H} (hx:runL ops P F nt e h=some x):h.next<=x.2.next:=by
 obtain ⟨_,_,_,_,_,_,e',h',_,_,_,_,_,_,hr,_,_,hv⟩:=ZLv hx
 exact Nat.le_trans (Nat.le_trans (ZJ6 hN hr) (Nat.le_succ _)) (ZKl hN _ hv)
theorem ZMx (hF:Zcv P F) (hN:ZHn F) (hh:HR g h w) (he:EnvR g e a) (hs:nt<=a.tmps.size) (hx:runL ops P F nt e h=some (e',h')) {id:Nat} {Q:Exit->Act->World->Prop} (hD:Done nt e' h' g w (Q .normal)):
  (Code.region id ops true).wpIn (FR R) 0 P Q a w:=by
 obtain ⟨n1,k0,m,t,kt,el,e1,h1,ips,htl,hq,hem,hmt,hkt,hr,hips,hap,hv⟩:=ZLv hx
 obtain ⟨hp,hfol,s,st,hz,hl,ht,hck⟩:=ZIH hr
 refine wpIn_region_any hfol ?_
 have hh':HR g h {w with drawn:=w.drawn+1}:=hh.sameHeap rfl
 have hD':Done nt e' h' g {w with drawn:=w.drawn+1} (Q .normal):=hD.next (Le.refl g) ⟨rfl,rfl,rfl,Nat.le_refl _,fun _ _ _=>rfl,fun b hb=> .inl ⟨b,hb,rfl⟩,fun _ _=>rfl⟩
 have hgetD: ∀i,(Array.replicate ops.size false).getD i false=false:=fun i=>by
  simp only [Array.getD]
  split
  ·simp
  ·rfl
 obtain ⟨q,q1,q2,q3,q4,_⟩:=ht.heap (h':=h1) (by rw [hl]) (sch (ZG4 k0 m t (pre n1 ops))).length 0 Zo
 refine ZPL htl hp ht hz hl hF hN hck hq hem hmt hkt hips hap hh' hv hD' ops.size (Array.replicate ops.size false) (E:=e) (g:=g.up (st q).2.next) Zs (fun k o _ hk=>by rw [hgetD] at hk;cases hk) (fun i _=>hgetD i) ?_ ?_ fun hk=>(by simp only [hgetD] at hk;cases hk)
 ·have:=htl.le
  simp [List.take_replicate,List.count_replicate]
  omega
 have hcnt:cE (ZG4 k0 m t (pre n1 ops)) (fun i=>(Array.replicate ops.size false).getD i false)=0:=by
  unfold cE
  rw [List.length_eq_zero_iff,List.filter_eq_nil_iff]
  intro k _
  rw [hgetD]
  simp
 have h0:HR g (st 0).2 {w with drawn:=w.drawn+1}:=by rw [hz];exact hh'
 have hgh:=ZNa ht h0 (Nat.zero_le q) q2 fun r i _ h2 h3=>q4 r i (Nat.zero_le _) h2 h3
 have hle: ∀b,b<=(sch (ZG4 k0 m t (pre n1 ops))).length->h.next<=(st b).2.next:=fun b hb=>by
  have:=ht.mono hN (Nat.zero_le _) hb
  rw [hz] at this
  exact this
 refine ⟨⟨_,by rw [hcnt];rw [List.drop_zero] at q3;exact q3,hgh⟩,he.mono (ZH9 _ _),fun t j _ hL=>?_,fun t _=>rfl,hs,⟨ZH9 _ _,?_,fun b hb=> .inl hb,rfl⟩,(Grew.refl _ _).up _,fun p i o hpos _ _ _ _ hex=>?_⟩
 ·rw [hgetD] at hL;cases hL
 ·show g.top<=(st q).2.next
  rw [hh.top]
  exact hle q q2
 ·have h1:=hh.nx _ hex
  have:=hle p (by have:=Am.Zaq hpos;omega)
  omega
end Go.Cm
end
section
namespace Go.Cm
attribute [local instance] wi0
variable {P:Program} {R:Option Nat} {F:ZaQ} {ops:Array Oper} {nt:Nat} {e e':Env} {h h':H} {g g0:G} {a:Act} {w w' w0:World}
structure Same (h h':H):Prop where
 next:h'.next=h.next
 obs: ∀b,h'.obs.get b=h.obs.get b
 mins: ∀b,h'.mins.get b=h.mins.get b
 tys: ∀b,h'.tys.get b=h.tys.get b
theorem Same.refl (h:H):Same h h:=⟨rfl,fun _=>rfl,fun _=>rfl,fun _=>rfl⟩
theorem Same.low (hs:Same h h'):h'.low=h.low:=funext fun k=>by unfold H.low;rw [hs.mins]
theorem HR.same (hs:Same h h') (hh:HR g h w):HR g h' w:=by
 have ha: ∀{b gr ver:Nat} {kid:Bool} {cs:List V},ZHG g h' b gr ver kid cs->ZHG g h b gr ver kid cs:=fun hx=>⟨by rw [<-hs.obs];exact hx.1,by rw [<-hs.low];exact hx.2.1,hx.2.2⟩
 exact ⟨hh.bs,fun b hb=>by rw [hs.next];exact hh.nx b hb,by rw [hs.next];exact hh.top,fun k m hk=>hh.mins k m (by rw [<-hs.mins];exact hk),fun b cs gr ver kid hb ho=>hh.grp b cs gr ver kid hb (by rw [<-hs.obs];exact ho),hh.blk,
  fun b o hb ho=>by rw [hs.low];exact hh.ob b o hb (by rw [<-hs.obs];exact ho),fun b x hx=>by rw [hs.next];exact hh.tl b x (by rw [<-hs.tys];exact hx),fun b t n hb hx=>hh.ty b t n hb (by rw [<-hs.tys];exact hx),
  fun b b' gr ver kid cs gr' ver' kid' cs' h1 h2=>hh.i1 b b' gr ver kid cs gr' ver' kid' cs' (ha h1) (ha h2),fun b b' gr ver cs ver' kid' cs' h1 h2=>hh.i2 b b' gr ver cs ver' kid' cs' (ha h1) (ha h2),
  fun b b' gr ver cs ver' cs' h1 h2 h3 h4=>hh.i4 b b' gr ver cs ver' cs' h1 h2 (by rw [<-hs.obs];exact h3) (by rw [<-hs.obs];exact h4),fun b o b' h1 h2=>hh.dm b o b' h1 (by rw [<-hs.obs];exact h2),hh.dt⟩
theorem ZMN {b o:Nat} {xs:List V} (hw:h.wr b o xs=some h'): ∃cs gr ver cs',h.obs.get b=some (.cells cs gr ver false)/\(h.low gr<=ver/\xs.all V.one=true)/\putC cs o xs=some cs'/\h'=⟨h.next,h.obs.set b (.cells cs' gr ver false),if h.low gr==ver then h.mins else h.mins.set gr ver,h.tys⟩:=by
 unfold H.wr at hw
 split at hw
 ·rename_i cs gr ver ho
  split at hw
  ·rename_i hc
   split at hw
   ·rename_i cs' hp
    cases hw
    exact ⟨cs,gr,ver,cs',ho,hc,hp,rfl⟩
   ·cases hw
  ·cases hw
 ·cases hw
theorem ZJY {gr ver:Nat} (k:Nat):(if h.low gr==ver then h.mins else h.mins.set gr ver).get k=if k=gr/\h.low gr≠ver then some ver else h.mins.get k:=by
 by_cases hl:h.low gr=ver
 ·simp [hl]
 ·have:(h.low gr==ver)=false:=by simpa using hl
  rw [this]
  simp only [Bool.false_eq_true,if_false,T.get_set]
  by_cases hk:k=gr<;>simp [hk,hl]
theorem ZPU {b1 o1 b2 o2:Nat} {x1 x2:List V} {h2 h3:H} (h1w:h.wr b1 o1 x1=some h2) (h2w:h2.wr b2 o2 x2=some h3) (hb:b1≠b2) {g1 g2:Nat} (hg1:ZNg h b1=some g1) (hg2:ZNg h b2=some g2) (hg:g1≠g2):
  ∃h2' h3',h.wr b2 o2 x2=some h2'/\h2'.wr b1 o1 x1=some h3'/\Same h3' h3:=by
 obtain ⟨cs1,gr1,ver1,cs1',p1,p2,p3,rfl⟩:=ZMN h1w
 obtain ⟨cs2,gr2,ver2,cs2',q1,q2,q3,rfl⟩:=ZMN h2w
 have q1':h.obs.get b2=some (.cells cs2 gr2 ver2 false):=by rw [T.get_set_ne _ _ (Ne.symm hb)] at q1;exact q1
 have e1:gr1=g1:=by unfold ZNg at hg1;rw [p1] at hg1;exact Option.some.inj hg1
 have e2:gr2=g2:=by unfold ZNg at hg2;rw [q1'] at hg2;exact Option.some.inj hg2
 have hgr:gr1≠gr2:=by rw [e1,e2];exact hg
 have low2: ∀(o:T O),(⟨h.next,o,if h.low gr1==ver1 then h.mins else h.mins.set gr1 ver1,h.tys⟩:H).low gr2=h.low gr2:=fun o=>by
  show ((if h.low gr1==ver1 then h.mins else h.mins.set gr1 ver1).get gr2).getD 0=_
  rw [ZJY,if_neg (fun hh=>hgr hh.1.symm)];rfl
 have low1: ∀(o:T O),(⟨h.next,o,if h.low gr2==ver2 then h.mins else h.mins.set gr2 ver2,h.tys⟩:H).low gr1=h.low gr1:=fun o=>by
  show ((if h.low gr2==ver2 then h.mins else h.mins.set gr2 ver2).get gr1).getD 0=_
  rw [ZJY,if_neg (fun hh=>hgr hh.1)];rfl
 rw [low2] at q2
 have w2:h.wr b2 o2 x2=some ⟨h.next,h.obs.set b2 (.cells cs2' gr2 ver2 false),if h.low gr2==ver2 then h.mins else h.mins.set gr2 ver2,h.tys⟩:=by
  unfold H.wr
  rw [q1']
  simp only [if_pos q2,q3]
 refine ⟨_,⟨h.next,(h.obs.set b2 (.cells cs2' gr2 ver2 false)).set b1 (.cells cs1' gr1 ver1 false),if h.low gr1==ver1 then (if h.low gr2==ver2 then h.mins else h.mins.set gr2 ver2) else (if h.low gr2==ver2 then h.mins else h.mins.set gr2 ver2).set gr1 ver1,h.tys⟩,w2,?_,?_⟩
 ·unfold H.wr
  simp only [T.get_set_ne _ _ hb,p1,low1,if_pos p2,p3]
 ·refine ⟨rfl,fun b=>?_,fun b=>?_,fun _=>rfl⟩
  ·simp only [T.get_set]
   by_cases y1:b=b1
   ·subst y1;simp [hb]
   ·by_cases y2:b=b2
    ·subst y2;simp [Ne.symm hb]
    ·simp [y1,y2]
  ·have m1:=ZJY (h:=h) (gr:=gr1) (ver:=ver1) b
   have m2:=ZJY (h:=h) (gr:=gr2) (ver:=ver2) b
   simp only [low2]
   by_cases l1:h.low gr1=ver1<;>by_cases l2:h.low gr2=ver2
   ·simp [l1,l2]
   ·have f2:(h.low gr2==ver2)=false:=by simpa using l2
    simp [l1,f2]
   ·have f1:(h.low gr1==ver1)=false:=by simpa using l1
    simp [f1,l2]
   ·have f1:(h.low gr1==ver1)=false:=by simpa using l1
    have f2:(h.low gr2==ver2)=false:=by simpa using l2
    simp only [f1,f2,Bool.false_eq_true,if_false,T.get_set]
    by_cases y1:b=gr1
    ·subst y1;simp [hgr]
    ·simp [y1]
theorem ZIp {t:TypeId} {x v:V} (hs:ZJ5 P h t x v=some h'): ∃b o,x= .ptr b o/\(szOf P t==some v.cells.length)=true/\h.wr b o v.cells=some h':=by
 unfold ZJ5 at hs
 split at hs
 ·rename_i b o
  split at hs
  ·rename_i hc
   exact ⟨b,o,rfl,hc,hs⟩
  ·cases hs
 ·cases hs
theorem ZHO {o:Oper} (hs:ZHs P e h o=some h'): ∃t x y u v,ZJi o.op=some (t,x,y)/\ev e x=some u/\ev e y=some v/\ZJ5 P h t u v=some h':=by
 unfold ZHs at hs
 split at hs
 ·rename_i t x y ho
  split at hs
  ·rename_i u v h1 h2
   exact ⟨t,x,y,u,v,ho,h1,h2,hs⟩
  ·cases hs
 ·cases hs
theorem ZMZ {op:Op} {t:TypeId} {x y:Operand} (hs:ZJi op=some (t,x,y)):op= .store t x y:=by
 cases op<;>simp [ZJi] at hs
 obtain ⟨rfl,rfl,rfl⟩:=hs
 rfl
theorem ZL4 {o1 o2:Oper} {h2 h3:H} (x1:ZHs P e h o1=some h2) (x2:ZHs P e h2 o2=some h3) {b1 b2 g1 g2:Nat} (p1:ZNW e o1=some b1) (p2:ZNW e o2=some b2) (hb:b1≠b2) (hg1:ZNg h b1=some g1) (hg2:ZNg h b2=some g2) (hg:g1≠g2):
  ∃h2' h3',ZHs P e h o2=some h2'/\ZHs P e h2' o1=some h3'/\Same h3' h3:=by
 obtain ⟨t1,a1,y1,u1,v1,s1,s2,s3,s4⟩:=ZHO x1
 obtain ⟨t2,a2,y2,u2,v2,r1,r2,r3,r4⟩:=ZHO x2
 obtain ⟨c1,q1,rfl,z1,w1⟩:=ZIp s4
 obtain ⟨c2,q2,rfl,z2,w2⟩:=ZIp r4
 have e1:c1=b1:=by unfold ZNW at p1;rw [s1] at p1;simp only [s2] at p1;exact Option.some.inj p1
 have e2:c2=b2:=by unfold ZNW at p2;rw [r1] at p2;simp only [r2] at p2;exact Option.some.inj p2
 subst e1;subst e2
 obtain ⟨h2',h3',k1,k2,k3⟩:=ZPU w1 w2 hb hg1 hg2 hg
 refine ⟨h2',h3',?_,?_,k3⟩
 ·unfold ZHs
  simp only [r1,r2,r3,ZJ5,z2,if_true,k1]
 ·unfold ZHs
  simp only [s1,s2,s3,ZJ5,z1,if_true,k2]
section
variable {i1 i2:Nat}
theorem ZHP (i:Nat):(ZHl i1 i2 ops)[i]? =(ops[i]?).map fun o=>if Nat.beq i i1||Nat.beq i i2 then dull o else o:=by simp [ZHl,Array.getElem?_mapIdx]
theorem ZMy:(ZHl i1 i2 ops).size=ops.size:=by simp [ZHl]
theorem ZNt {i:Nat}:(Nat.beq i i1||Nat.beq i i2)=true↔i=i1∨i=i2:=by
 rw [Bool.or_eq_true]
 exact ⟨fun h=>h.imp Nat.eq_of_beq_eq_true Nat.eq_of_beq_eq_true,fun h=>h.imp (fun e=>by rw [e];exact Nat.beq_refl _) fun e=>by rw [e];exact Nat.beq_refl _⟩
theorem ZJB {i:Nat} (h1:i≠i1) (h2:i≠i2):(ZHl i1 i2 ops)[i]? =ops[i]? :=by
 rw [ZHP]
 have:(Nat.beq i i1||Nat.beq i i2)=false:=by rw [Bool.eq_false_iff];exact fun h=>(ZNt.1 h).elim h1 h2
 simp [this]
theorem ZLQ {i:Nat} {o:Oper} (h:(ZHl i1 i2 ops)[i]? =some o): ∃o',ops[i]? =some o'/\o.after=o'.after:=by
 rw [ZHP] at h
 simp only [Option.map_eq_some_iff] at h
 obtain ⟨o',h1,h2⟩:=h
 exact ⟨o',h1,by rw [<-h2];split<;>rfl⟩
theorem ZIO {o:Oper} (h:isSt o=true): ∃t x y,o.op= .store t x y/\o.dst=none/\o.guard=none:=by
 unfold isSt at h
 simp only [Bool.and_eq_true,Option.isNone_iff_eq_none] at h
 obtain ⟨⟨h1,h2⟩,h3⟩:=h
 obtain ⟨⟨t,x,y⟩,h4⟩:=Option.isSome_iff_exists.1 h1
 exact ⟨t,x,y,ZMZ h4,h2,h3⟩
theorem ZJs (hs: ∀i o,ops[i]? =some o->i=i1∨i=i2->isSt o=true) (i:Nat):ZHc (ZHl i1 i2 ops) i=ZHc ops i:=by
 unfold ZHc
 rw [ZHP]
 cases ho:ops[i]? with
 | none=>rfl
 | some o=>
   simp only [Option.map_some,Option.bind_some]
   split
   · rename_i hb
     obtain ⟨_,_,_,_,hd,_⟩:=ZIO (hs i o ho (ZNt.1 hb))
     rw [hd];rfl
   · rfl
theorem ZNe (hs: ∀i o,ops[i]? =some o->i=i1∨i=i2->isSt o=true) {j:Nat} (h1:j≠i1) (h2:j≠i2) {K:Act->World->Prop} {Q:Exit->Act->World->Prop} (hw:wpOpIn (FR R) 0 P (ZHl i1 i2 ops) Q j K a w):wpOpIn (FR R) 0 P ops Q j K a w:=by
 unfold wpOpIn at hw⊢
 rw [ZJB h1 h2] at hw
 cases ho:ops[j]? with
 | none=>rw [ho] at hw;exact hw
 | some o=>
   rw [ho] at hw
   simp only at hw⊢
   have hwa:Region.wanted o (yielded (ZHl i1 i2 ops) a.tmps)=Region.wanted o (yielded ops a.tmps):=by
     unfold Region.wanted
     split
     · rfl
     · rename_i x want hg
       congr 1
       unfold yielded
       have:=ZJs hs x
       unfold ZHc at this
       rw [this]
   rwa [hwa] at hw
def HC (h2 h2' h3:H):Bool->Bool->H->Prop
 | true,false,hc=>hc=h2
 | false,true,hc=>hc=h2'
 | true,true,hc=>Same hc h3
 | false,false,_=>False
structure Ph2 (ops:Array Oper) (nt:Nat) (i1 i2:Nat) (h2 h2' h3:H) (e e':Env) (g0:G) (w0:World) (L:Nat->Bool) (E:Env) (g:G) (a:Act) (w:World):Prop where
 hr: ∃hc,HC h2 h2' h3 (L i1) (L i2) hc/\HR g hc w
 env:EnvR g E a
 ep1: ∀(t j:Nat),ZHc ops j=some t->L j=true->E.get t=e'.get t
 ep2: ∀t:Nat,(∀j,ZHc ops j=some t->L j=false)->E.get t=e.get t
 sz:nt<=a.tmps.size
 le:Le g0 g
 gr:Grew g0 w0 g w
variable {h1 h2 h2' h3 h3':H} {o1 o2:Oper}
variable {s:List Snap} {st:Nat->Env×H} (hp:Pl (ZHl i1 i2 ops)) (ht:Tr P F nt (ZHl i1 i2 ops) (sch (ZHl i1 i2 ops)) s st) (hz:st 0=(e,h)) (hl:st (sch (ZHl i1 i2 ops)).length=(e',h1))
 (hF:Zcv P F) (hN:ZHn F) (hck: ∀x∈s,ZJ9 (ZHl i1 i2 ops) P F (ZG9 (ZHl i1 i2 ops) s h1) e' x=true)
 (hne:i1≠i2) (ho1:ops[i1]? =some o1) (ho2:ops[i2]? =some o2) (chk: ∀i,i<ops.size->ZKx (ZHl i1 i2 ops) ops i1 i2 P F nt e' h1 i=true)
 (x1:ZHs P e' h1 o1=some h2) (x2:ZHs P e' h2 o2=some h3) (y2:ZHs P e' h1 o2=some h2') (y1:ZHs P e' h2' o1=some h3') (sm:Same h3' h3)
include chk in
theorem ZQN: ∀i o,ops[i]? =some o->i=i1∨i=i2->isSt o=true/\ZIh (ZHl i1 i2 ops) i (ZHj o.op)=true/\ ∀k∈effs (ZHl i1 i2 ops),(anc (ZHl i1 i2 ops) i).testBit k=true:=fun i o ho hi=>by
 have:=chk i (Array.getElem?_eq_some_iff.1 ho).1
 unfold ZKx at this
 rw [ho] at this
 simp only [if_pos (ZNt.2 hi),Bool.and_eq_true,List.all_eq_true] at this
 exact ⟨this.1.1,this.1.2,this.2⟩
include hp ht hz hl in
theorem ZKW {L:Nat->Bool} {E:Env} (hcl:Cl (ZHl i1 i2 ops) L) (hd: ∀i,ZHc (ZHl i1 i2 ops) i=ZHc ops i) (ep1: ∀(t j:Nat),ZHc ops j=some t->L j=true->E.get t=e'.get t) (ep2: ∀t:Nat,(∀j,ZHc ops j=some t->L j=false)->E.get t=e.get t)
  {i:Nat} {o':Oper} (ho':(ZHl i1 i2 ops)[i]? =some o') (hdep: ∀ed∈o'.after,Region.binds .any ed=true->L ed.on=true) {l:List Operand} (hr:ZIh (ZHl i1 i2 ops) i l=true):Agr E e' l:=by
 refine Agr.of fun t htm=>?_
 by_cases hw: ∃j,ZHc ops j=some t
 ·obtain ⟨j,hj⟩:=hw
  have hjl:j<(ZHl i1 i2 ops).size:=ZIl (by rw [hd];exact hj)
  unfold ZIh at hr
  have:=List.all_eq_true.1 (List.all_eq_true.1 hr t htm) j (List.mem_range.2 hjl)
  rw [hd,hj] at this
  simp only [bne_self_eq_false,Bool.false_or] at this
  exact ep1 t j hj (ZG5 hp hcl i o' ho' hdep j this)
 ·have hn: ∀j,ZHc ops j≠some t:=fun j hj=>hw ⟨j,hj⟩
  rw [ep2 t fun j hj=>absurd hj (hn j)]
  have:=ZMj hp ht hz hl (p:=(sch (ZHl i1 i2 ops)).length) (t:=t) (fun j=>by rw [hd];exact hn j) (Nat.le_refl _)
  rw [hl] at this
  exact this.symm
theorem ZKD {E:Env} {hc hd:H} {o:Oper} (hs:isSt o=true) (hagr:Agr E e' (ZHj o.op)) (hx:ZHs P e' hc o=some hd):ZJX P F nt ops o E hc=some (E,hd):=by
 obtain ⟨t,x,y,q1,q2,q3⟩:=ZIO hs
 obtain ⟨t',x',y',u,v,r1,r2,r3,r4⟩:=ZHO hx
 rw [q1] at r1
 simp only [ZJi,Option.some.injEq,Prod.mk.injEq] at r1
 obtain ⟨rfl,rfl,rfl⟩:=r1
 unfold ZJX
 have hg:goes ops o E=some true:=by unfold goes;rw [q3]
 rw [hg]
 simp only [q1,opV]
 rw [q1] at hagr
 rw [hagr x (by simp [ZHj]),hagr y (by simp [ZHj]),r2,r3]
 simp only [r4,Option.map_some,q2,putE]
include hp ht hz hl hF hN hck hne ho1 ho2 chk x1 x2 y2 y1 sm
theorem ZOO (hg0:HR g0 h w0) {Q:Exit->Act->World->Prop} (hD:Done nt e' h3 g0 w0 (Q .normal)): ∀(fuel:Nat) (listed:Array Bool) {E:Env} {g:G} {a:Act} {w:World},
   listed.size=ops.size->(∀(k:Nat) (o:Oper),ops[k]? =some o->listed.getD k false=true-> ∀ed∈o.after,Region.binds .any ed=true->listed.getD ed.on false=true)->listed.toList.count false<=fuel->
   ((Inv P F nt (ZHl i1 i2 ops) s st e e' h1 g0 w0 (fun i=>listed.getD i false) E g a w/\listed.getD i1 false=false/\listed.getD i2 false=false)∨Ph2 ops nt i1 i2 h2 h2' h3 e e' g0 w0 (fun i=>listed.getD i false) E g a w)->wpAnyIn (FR R) 0 P .any ops Q fuel listed a w:=by
 have hst:=fun i o ho hi=>(ZQN chk i o ho hi).1
 have hd:=ZJs hst
 have l1:=(Array.getElem?_eq_some_iff.1 ho1).1
 have l2:=(Array.getElem?_eq_some_iff.1 ho2).1
 have fin: ∀(listed:Array Bool) {E:Env} {g:G} {a:Act} {w:World},listed.size=ops.size->(∀i,i<ops.size->listed.getD i false=true)->
     ((Inv P F nt (ZHl i1 i2 ops) s st e e' h1 g0 w0 (fun i=>listed.getD i false) E g a w/\listed.getD i1 false=false/\listed.getD i2 false=false)∨Ph2 ops nt i1 i2 h2 h2' h3 e e' g0 w0 (fun i=>listed.getD i false) E g a w)->Q .normal a w:=by
   intro listed E g a w hsz hall hor
   rcases hor with ⟨_,hb,_⟩|ph
   · rw [hall i1 l1] at hb;cases hb
   · obtain ⟨hc,q1,q2⟩:=ph.hr
     simp only [hall i1 l1,hall i2 l2,HC] at q1
     refine hD a w g ⟨ph.env.1,fun t v hv=>ph.env.2 t v ?_⟩ ph.sz (q2.same q1) ph.le ph.gr
     by_cases hw: ∃j,ZHc ops j=some t
     · obtain ⟨j,hj⟩:=hw
       rw [ph.ep1 t j hj (hall j (ZIl hj))];exact hv
     · have hn: ∀j,ZHc ops j≠some t:=fun j hj=>hw ⟨j,hj⟩
       rw [ph.ep2 t fun j hj=>absurd hj (hn j)]
       have:=ZMj hp ht hz hl (p:=(sch (ZHl i1 i2 ops)).length) (t:=t) (fun j=>by rw [hd];exact hn j) (Nat.le_refl _)
       rw [hl] at this
       rw [<-this];exact hv
 intro fuel
 induction fuel with
 | zero=>
   intro listed E g a w hsz hcl hc hor
   have hall: ∀i,i<ops.size->listed.getD i false=true:=fun i hi=>by
     have his:i<listed.size:=by omega
     simp only [Array.getD,his,dif_pos]
     cases hb:listed[i] with
     | true=>simp [hb]
     | false=>
       exfalso
       have:0<listed.toList.count false:=List.count_pos_iff.2 (by rw [<-hb];simp)
       omega
   refine ⟨?_,fin listed hsz hall hor⟩
   refine List.eq_nil_iff_forall_not_mem.2 fun j hj=>?_
   obtain ⟨h0,o,ho,_⟩:=mem_ready.1 hj
   have hjl:=(Array.getElem?_eq_some_iff.1 ho).1
   have:=hall j hjl
   have hjs:j<listed.size:=by omega
   simp only [Array.getD,hjs,dif_pos] at h0 this
   rw [h0] at this;cases this
 | succ fuel ih=>
   intro listed E g a w hsz hcl hc hor
   have hcl':Cl (ZHl i1 i2 ops) fun i=>listed.getD i false:=fun k o hk hL ed he hb=>by
     obtain ⟨o',q1,q2⟩:=ZLQ hk
     exact hcl k o' q1 hL ed (by rw [<-q2];exact he) hb
   refine ⟨fun hr=>fin listed hsz (fun i hi=>?_) hor,fun j hj=>?_⟩
   · cases hh:listed.getD i false with
     | true=>rfl
     | false=>
       exfalso
       obtain ⟨j,j1,j2,j3⟩:=Am.Zmv (fun i=>listed.getD i false) ops.size ⟨i,hi,hh⟩
       have ho:ops[j]? =some (ops[j]'j1):=Array.getElem?_eq_getElem _
       have hok:=hp.an j (by rw [ZMy];exact j1)
       have ho':(ZHl i1 i2 ops)[j]? =some (if Nat.beq j i1||Nat.beq j i2 then dull (ops[j]'j1) else ops[j]'j1):=by rw [ZHP,ho];rfl
       unfold ZOj at hok
       rw [ho'] at hok
       simp only [Bool.and_eq_true] at hok
       have haf:(if Nat.beq j i1||Nat.beq j i2 then dull (ops[j]'j1) else ops[j]'j1).after=(ops[j]'j1).after:=by split<;>rfl
       have:j∈Region.ready .any ops listed:=mem_ready.2 ⟨by rw [ZI5 Zo true false];exact j2,_,ho,fun ed he hb=>by
         have:=List.all_eq_true.1 hok.1 ed (by rw [haf];simpa using he)
         simp only [hb,Bool.not_true,Bool.false_or,Nat.blt_eq] at this
         exact j3 _ this⟩
       rw [hr] at this;cases this
   obtain ⟨hj0,o,ho,hdep⟩:=mem_ready.1 hj
   have hjl:=(Array.getElem?_eq_some_iff.1 ho).1
   have hjs:j<listed.size:=by omega
   have hj0':listed.getD j false=false:=by rw [ZI5 hjs false true];exact hj0
   obtain ⟨o',ho',haf⟩: ∃o',(ZHl i1 i2 ops)[j]? =some o'/\o'.after=o.after:=⟨if Nat.beq j i1||Nat.beq j i2 then dull o else o,by rw [ZHP,ho];rfl,by split<;>rfl⟩
   have hdep': ∀ed∈o'.after,Region.binds .any ed=true->listed.getD ed.on false=true:=fun ed he hb=>hdep ed (by rw [<-haf];exact he) hb
   have hL:(fun k=>listed.getD k false||k==j)=fun k=>(listed.setIfInBounds j true).getD k false:=by
     funext k
     by_cases hkj:j=k
     · subst hkj
       simp [Array.getD,hjs]
     · rw [getD_set_ne false hkj]
       have:(k==j)=false:=by simp;omega
       rw [this,Bool.or_false]
   have nxt: ∀{E:Env} {g:G} {a:Act} {w:World},((Inv P F nt (ZHl i1 i2 ops) s st e e' h1 g0 w0 (fun k=>listed.getD k false||k==j) E g a w/\(listed.getD i1 false||i1==j)=false/\(listed.getD i2 false||i2==j)=false)∨Ph2 ops nt i1 i2 h2 h2' h3 e e' g0 w0 (fun k=>listed.getD k false||k==j) E g a w)->wpAnyIn (FR R) 0 P .any ops Q fuel (listed.setIfInBounds j true) a w:=by
     intro E g a w hor
     rw [hL] at hor
     have e1:=congrFun hL i1
     have e2:=congrFun hL i2
     rw [e1,e2] at hor
     refine ih _ (by simpa using hsz) (fun k o2 ho2 hk ed he hb=>?_) ?_ hor
     · refine getD_set_true ?_
       by_cases hkj:j=k
       · subst hkj
         rw [ho] at ho2;cases ho2
         exact hdep ed he hb
       · rw [getD_set_ne false hkj] at hk
         exact hcl k o2 ho2 hk ed he hb
     · have hlj:listed.toList[j]? =some false:=by
         simp only [Array.getD,hjs,dif_pos] at hj0
         have:listed[j]=false:=hj0
         rw [<-this];simp
       rw [Array.toList_setIfInBounds]
       have:=Am.Zt0 hlj
       omega
   have ep1': ∀{E:Env},(∀(t k:Nat),ZHc ops k=some t->listed.getD k false=true->E.get t=e'.get t)->ZHc ops j=none-> ∀(t k:Nat),ZHc ops k=some t->(listed.getD k false||k==j)=true->E.get t=e'.get t:=fun hE hdj t k hk hLk=>by
     rw [Bool.or_eq_true] at hLk
     rcases hLk with hLk|hLk
     · exact hE t k hk hLk
     · have:k=j:=by simpa using hLk
       subst this
       rw [hdj] at hk;cases hk
   have ep2': ∀{E:Env},(∀t:Nat,(∀k,ZHc ops k=some t->listed.getD k false=false)->E.get t=e.get t)-> ∀t:Nat,(∀k,ZHc ops k=some t->(listed.getD k false||k==j)=false)->E.get t=e.get t:=fun hE t hk=>hE t fun k hkt=>(Bool.or_eq_false_iff.1 (hk k hkt)).1
   rcases hor with ⟨inv,b1,b2⟩|ph
   · by_cases hjs1:j=i1∨j=i2
     · obtain ⟨s1,s2,s3⟩:=ZQN chk j o ho hjs1
       obtain ⟨_,_,_,_,hdst,_⟩:=ZIO s1
       have hdj:ZHc ops j=none:=by unfold ZHc;rw [ho];exact hdst
       have ie1: ∀(t k:Nat),ZHc ops k=some t->listed.getD k false=true->E.get t=e'.get t:=fun t k hk=>inv.ep1 t k (by rw [hd];exact hk)
       have ie2: ∀t:Nat,(∀k,ZHc ops k=some t->listed.getD k false=false)->E.get t=e.get t:=fun t hk=>inv.ep2 t fun k hkt=>hk k (by rw [<-hd];exact hkt)
       have hagr:=ZKW hp ht hz hl (L:=fun i=>listed.getD i false) hcl' hd ie1 ie2 ho' hdep' s2
       have hh1:HR g h1 w:=by
         obtain ⟨hc,q1,q2⟩:=inv.hr
         have hcnt:cE (ZHl i1 i2 ops) (fun i=>listed.getD i false)=cntE (ZHl i1 i2 ops) (sch (ZHl i1 i2 ops)) (sch (ZHl i1 i2 ops)).length:=by
           unfold cE cntE
           rw [List.take_length,hp.fi]
           congr 1
           exact List.filter_eq_self.2 fun k hk=>ZG5 hp hcl' j o' ho' hdep' k (s3 k hk)
         have hlast:=ht.heaps (h':=h1) (sch (ZHl i1 i2 ops)).length (Nat.le_refl _) 0
         have hdrop:s.drop (sch (ZHl i1 i2 ops)).length=[]:=by rw [List.drop_of_length_le];rw [ht.len];exact Nat.le_refl _
         rw [Nat.add_zero,<-hcnt,q1,hdrop] at hlast
         simp only [ZG9,List.getElem?_cons_zero,Option.some.injEq] at hlast
         subst hlast
         exact q2
       have go: ∀{hd':H},ZHs P e' h1 o=some hd'->HC h2 h2' h3 (listed.getD i1 false||i1==j) (listed.getD i2 false||i2==j) hd'->wpOpIn (FR R) 0 P ops Q j (wpAnyIn (FR R) 0 P .any ops Q fuel (listed.setIfInBounds j true)) a w:=fun hx hHC=>by
         refine ZyK hF hh1 inv.env inv.sz ho (ZKD s1 hagr hx) fun v w' g' r1 r2 r3 r4=>nxt (E:=E) (g:=g') (.inr ?_)
         exact ⟨⟨_,hHC,r2⟩,r1,ep1' ie1 hdj,ep2' ie2,by rw [Am.Zd6];exact inv.sz,inv.le.trans r3,inv.gr.trans r4⟩
       rcases hjs1 with rfl|rfl
       · rw [ho1] at ho;cases ho
         refine go x1 ?_
         have:(i2==j)=false:=by simpa using Ne.symm hne
         rw [b1,b2,this,beq_self_eq_true]
         rfl
       · rw [ho2] at ho;cases ho
         refine go y2 ?_
         have:(i1==j)=false:=by simpa using hne
         rw [b1,b2,this,beq_self_eq_true]
         rfl
     · have n1:j≠i1:=fun h=>hjs1 (.inl h)
       have n2:j≠i2:=fun h=>hjs1 (.inr h)
       refine ZNe hst n1 n2 (ZJ3 hp ht hz hl hF hN hck inv hg0 hcl' (by rw [ZJB n1 n2];exact ho) hj0' hdep fun v w' E' g' inv' r1 r2=>nxt (E:=E') (g:=g') (.inl ⟨inv',?_,?_⟩))
       · rw [b1];simpa using Ne.symm n1
       · rw [b2];simpa using Ne.symm n2
   · obtain ⟨hc,q1,q2⟩:=ph.hr
     by_cases hjs1:j=i1∨j=i2
     · obtain ⟨s1,s2,s3⟩:=ZQN chk j o ho hjs1
       obtain ⟨_,_,_,_,hdst,_⟩:=ZIO s1
       have hdj:ZHc ops j=none:=by unfold ZHc;rw [ho];exact hdst
       have hagr:=ZKW hp ht hz hl (L:=fun i=>listed.getD i false) hcl' hd ph.ep1 ph.ep2 ho' hdep' s2
       have go: ∀{hd':H},ZHs P e' hc o=some hd'->HC h2 h2' h3 (listed.getD i1 false||i1==j) (listed.getD i2 false||i2==j) hd'->wpOpIn (FR R) 0 P ops Q j (wpAnyIn (FR R) 0 P .any ops Q fuel (listed.setIfInBounds j true)) a w:=fun hx hHC=>by
         refine ZyK hF q2 ph.env ph.sz ho (ZKD s1 hagr hx) fun v w' g' r1 r2 r3 r4=>nxt (E:=E) (g:=g') (.inr ?_)
         exact ⟨⟨_,hHC,r2⟩,r1,ep1' ph.ep1 hdj,ep2' ph.ep2,by rw [Am.Zd6];exact ph.sz,ph.le.trans r3,ph.gr.trans r4⟩
       rcases hjs1 with rfl|rfl
       · rw [ho1] at ho;cases ho
         simp only [hj0'] at q1
         cases hb2:listed.getD i2 false with
         | false=>rw [hb2] at q1;exact q1.elim
         | true=>
           rw [hb2] at q1
           have q1:hc=h2':=q1
           subst q1
           refine go y1 ?_
           rw [hb2,beq_self_eq_true,Bool.or_true,Bool.true_or]
           exact sm
       · rw [ho2] at ho;cases ho
         simp only [hj0'] at q1
         cases hb1:listed.getD i1 false with
         | false=>rw [hb1] at q1;exact q1.elim
         | true=>
           rw [hb1] at q1
           have q1:hc=h2:=q1
           subst q1
           refine go x2 ?_
           rw [hb1,beq_self_eq_true,Bool.or_true,Bool.true_or]
           exact Same.refl _
     · have n1:j≠i1:=fun h=>hjs1 (.inl h)
       have n2:j≠i2:=fun h=>hjs1 (.inr h)
       have f1:(i1==j)=false:=by simpa using Ne.symm n1
       have f2:(i2==j)=false:=by simpa using Ne.symm n2
       have hk:=chk j hjl
       unfold ZKx at hk
       rw [ho] at hk
       have hnb: ¬(Nat.beq j i1||Nat.beq j i2)=true:=fun h=>hjs1 (ZNt.1 h)
       simp only at hk
       rw [if_neg hnb] at hk
       simp only [Bool.or_eq_true,Bool.and_eq_true] at hk
       rcases hk with ⟨k1,k2⟩|hk
       · exfalso
         have bad: ∀(k:Nat) (ok:Oper),ops[k]? =some ok->listed.getD k false=true->(anc (ZHl i1 i2 ops) k).testBit j=true->False:=fun k ok hok hkL hb=>by
           have hok':(ZHl i1 i2 ops)[k]? =some (if Nat.beq k i1||Nat.beq k i2 then dull ok else ok):=by rw [ZHP,hok];rfl
           have:=ZG5 hp hcl' k _ hok' (hcl' k _ hok' hkL) j hb
           rw [hj0'] at this;cases this
         cases c1:listed.getD i1 false with
         | true=>exact bad i1 o1 ho1 c1 k1
         | false=>
           cases c2:listed.getD i2 false with
           | true=>exact bad i2 o2 ho2 c2 k2
           | false=>simp only [c1,c2] at q1;exact q1.elim
       · obtain ⟨⟨⟨m1,m2⟩,m3⟩,m4⟩:=hk
         have m1:ZIi o.op=0:=by simpa using m1
         have m2:o.guard=none:=by simpa using m2
         have hagr:=ZKW hp ht hz hl (L:=fun i=>listed.getD i false) hcl' hd ph.ep1 ph.ep2 ho' hdep' m3
         split at m4
         · rename_i ov hx hop
           have hopE:opV P F E hc o.op=some (ov,hc):=by rw [ZLl hagr];exact (ZK8 m1 hop).2 hc
           have hg:goes ops o E=some true:=by unfold goes;rw [m2]
           obtain ⟨E1,hE1⟩: ∃E1,putE nt E o.dst ov=some E1:=by
             cases hdo:o.dst with
             | none=>exact ⟨E,rfl⟩
             | some t=>
               rw [hdo] at m4
               simp only [Bool.and_eq_true,Nat.blt_eq] at m4
               obtain ⟨t,rfl⟩: ∃t₀:Nat,t₀=t:=⟨t,rfl⟩
               exact ⟨E.set t (ov.getD (.tup [])),by simp only [putE];rw [if_pos m4.1]⟩
           have hsv:ZJX P F nt ops o E hc=some (E1,hc):=by
             unfold ZJX
             rw [hg]
             simp only [hopE,hE1,Option.map_some]
           refine ZyK hF q2 ph.env ph.sz ho hsv fun v w' g' r1 r2 r3 r4=>nxt (E:=E1) (g:=g') (.inr ?_)
           obtain ⟨p1,p2⟩:=ZgW hE1
           refine ⟨⟨hc,by rw [f1,f2,Bool.or_false,Bool.or_false];exact q1,r2⟩,r1,fun t k hkt hLk=>?_,fun t hk2=>?_,by rw [Am.Zd6];exact ph.sz,ph.le.trans r3,ph.gr.trans r4⟩
           · by_cases htd:o.dst=some t
             · have hm4:=m4
               rw [htd] at hm4
               simp only [Bool.and_eq_true] at hm4
               rw [(p1 t htd).2,<-ZN3 hm4.2]
             · rw [p2 t htd]
               rw [Bool.or_eq_true] at hLk
               rcases hLk with hLk|hLk
               · exact ph.ep1 t k hkt hLk
               · exfalso
                 have:k=j:=by simpa using hLk
                 subst this
                 unfold ZHc at hkt
                 rw [ho] at hkt
                 exact htd hkt
           · have htd:o.dst≠some t:=fun hdo=>by
               have:=hk2 j (by unfold ZHc;rw [ho];exact hdo)
               simp at this
             rw [p2 t htd]
             exact ph.ep2 t fun k hkt=>(Bool.or_eq_false_iff.1 (hk2 k hkt)).1
         · cases m4
end
theorem ZLo {x:Env×H} (hx:runC ops P F nt e h=some x): ∃i1 i2 e' h1 o1 o2 h2 b1 b2 g1 g2,i1≠i2/\runD (ZHl i1 i2 ops) P F nt e h=some (e',h1)/\(∀i,i<ops.size->ZKx (ZHl i1 i2 ops) ops i1 i2 P F nt e' h1 i=true)/\ops[i1]? =some o1/\ops[i2]? =some o2/\
  ZHs P e' h1 o1=some h2/\ZNW e' o1=some b1/\ZNW e' o2=some b2/\ZHs P e' h2 o2=some x.2/\ZNg h1 b1=some g1/\ZNg h1 b2=some g2/\b1≠b2/\g1≠g2/\x.1=e':=by
 unfold runC at hx
 split at hx
 ·rename_i i1 i2 _
  split at hx
  ·cases hx
  ·rename_i hne
   split at hx
   ·rename_i e' h1 hr
    split at hx
    ·rename_i hall
     split at hx
     ·rename_i o1 o2 ho1 ho2
      split at hx
      ·rename_i h2 b1 b2 q1 q2 q3
       split at hx
       ·rename_i h3 g1 g2 r1 r2 r3
        split at hx
        ·cases hx
        ·rename_i hb
         cases hx
         simp only [Bool.or_eq_true,not_or] at hb
         exact ⟨i1,i2,e',h1,o1,o2,h2,b1,b2,g1,g2,fun he=>hne (by rw [he];exact Nat.beq_refl _),hr,fun i hi=>List.all_eq_true.1 hall i (List.mem_range.2 hi),ho1,ho2,q1,q2,q3,r1,r2,r3,fun he=>hb.1 (by rw [he];exact Nat.beq_refl _),fun he=>hb.2 (by rw [he];exact Nat.beq_refl _),rfl⟩
       ·cases hx
      ·cases hx
     ·cases hx
    ·cases hx
   ·cases hx
 ·cases hx
theorem ZJG {o:Oper} (hs:ZHs P e h o=some h'):h'.next=h.next:=by
 obtain ⟨t,x,y,u,v,_,_,_,h4⟩:=ZHO hs
 obtain ⟨b,i,_,_,hw⟩:=ZIp h4
 obtain ⟨_,_,_,_,_,_,_,rfl⟩:=ZMN hw
 rfl
theorem ZNq (hN:ZHn F) {x:Env×H} (hx:runC ops P F nt e h=some x):h.next<=x.2.next:=by
 obtain ⟨i1,i2,e',h1,o1,o2,h2,b1,b2,g1,g2,_,hr,_,_,_,q1,_,_,q2,_⟩:=ZLo hx
 have:=ZJ6 hN hr
 rw [ZJG q2,ZJG q1]
 exact this
theorem ZLR (hF:Zcv P F) (hN:ZHn F) (hh:HR g h w) (he:EnvR g e a) (hs:nt<=a.tmps.size) (hx:runC ops P F nt e h=some (e',h')) {id:Nat} {Q:Exit->Act->World->Prop} (hD:Done nt e' h' g w (Q .normal)):
  (Code.region id ops true).wpIn (FR R) 0 P Q a w:=by
 obtain ⟨i1,i2,e2,h1,o1,o2,h2,b1,b2,g1,g2,hne,hr,chk,ho1,ho2,x1,p1,p2,x2,hg1,hg2,hb,hg,he2⟩:=ZLo hx
 simp only at he2 x2
 subst he2
 obtain ⟨h2',h3',y2,y1,sm⟩:=ZL4 x1 x2 p1 p2 hb hg1 hg2 hg
 obtain ⟨hp,hfol,s,st,hz,hl,ht,hck⟩:=ZIH hr
 refine wpIn_region_any hfol ?_
 have hh':HR g h {w with drawn:=w.drawn+1}:=hh.sameHeap rfl
 have hD':Done nt e' h' g {w with drawn:=w.drawn+1} (Q .normal):=hD.next (Le.refl g) ⟨rfl,rfl,rfl,Nat.le_refl _,fun _ _ _=>rfl,fun b hb=> .inl ⟨b,hb,rfl⟩,fun _ _=>rfl⟩
 have hgetD: ∀i,(Array.replicate ops.size false).getD i false=false:=fun i=>by
  simp only [Array.getD]
  split
  ·simp
  ·rfl
 obtain ⟨q,q1,q2,q3,q4,_⟩:=ht.heap (h':=h1) (by rw [hl]) (sch (ZHl i1 i2 ops)).length 0 Zo
 refine ZOO hp ht hz hl hF hN hck hne ho1 ho2 chk x1 x2 y2 y1 sm hh' hD' ops.size (Array.replicate ops.size false) (E:=e) (g:=g.up (st q).2.next) Zs (fun k o _ hk=>by rw [hgetD] at hk;cases hk) (by simp [List.count_replicate]) (.inl ⟨?_,hgetD _,hgetD _⟩)
 have hcnt:cE (ZHl i1 i2 ops) (fun i=>(Array.replicate ops.size false).getD i false)=0:=by
  unfold cE
  rw [List.length_eq_zero_iff,List.filter_eq_nil_iff]
  intro k _
  rw [hgetD]
  simp
 have h0:HR g (st 0).2 {w with drawn:=w.drawn+1}:=by rw [hz];exact hh'
 have hgh:=ZNa ht h0 (Nat.zero_le q) q2 fun r i _ h2 h3=>q4 r i (Nat.zero_le _) h2 h3
 have hle: ∀b,b<=(sch (ZHl i1 i2 ops)).length->h.next<=(st b).2.next:=fun b hb=>by
  have:=ht.mono hN (Nat.zero_le _) hb
  rw [hz] at this
  exact this
 refine ⟨⟨_,by rw [hcnt];rw [List.drop_zero] at q3;exact q3,hgh⟩,he.mono (ZH9 _ _),fun t j _ hL=>?_,fun t _=>rfl,hs,⟨ZH9 _ _,?_,fun b hb=> .inl hb,rfl⟩,(Grew.refl _ _).up _,fun p i o hpos _ _ _ _ hex=>?_⟩
 ·rw [hgetD] at hL;cases hL
 ·show g.top<=(st q).2.next
  rw [hh.top]
  exact hle q q2
 ·have h1:=hh.nx _ hex
  have:=hle p (by have:=Am.Zaq hpos;omega)
  omega
theorem ZMQ (hN:ZHn F) {x:Env×H} (hx:ZPc ops P F nt e h=some x):h.next<=x.2.next:=by
 unfold ZPc at hx
 split at hx
 ·rename_i r hr
  cases hx
  exact ZJ6 hN hr
 ·split at hx
  ·rename_i r hr
   cases hx
   exact ZNA hN hr
  ·exact ZNq hN hx
theorem ZK6 (hF:Zcv P F) (hN:ZHn F) (hh:HR g h w) (he:EnvR g e a) (hs:nt<=a.tmps.size) (hx:ZPc ops P F nt e h=some (e',h')) {id:Nat} {Q:Exit->Act->World->Prop} (hD:Done nt e' h' g w (Q .normal)):
  (Code.region id ops true).wpIn (FR R) 0 P Q a w:=by
 unfold ZPc at hx
 split at hx
 ·rename_i r hr
  cases hx
  exact ZLZ hF hN hh he hs hr hD
 ·split at hx
  ·rename_i r hr
   cases hx
   exact ZMx hF hN hh he hs hr hD
  ·exact ZLR hF hN hh he hs hx hD
end Go.Cm
end
section
namespace Go.Cm
open Go.Am (Zaw Zhz Zpc ZjZ ZuJ Zk0 Zra)
attribute [local instance] wi0
variable {P:Program} {R:Option Nat} {F:ZaQ} {g:G} {e e':Env} {a:Act} {w:World} {h h':H} {ov:Option V} {o:Oper}
def X.toExit:X->Exit
 | .normal=> .normal
 | .exit id=> .exit id
 | .ret=> .ret
structure LeD (g g':G):Prop extends Le0 g g' where
 top:g.top<=g'.top
 new: ∀b,g'.ex b->g.ex b∨g.top<=b
theorem Le.toD {g g':G} (h:Le g g'):LeD g g':=⟨h.toLe0,h.top,h.new⟩
theorem LeD.trans {g g' g'':G} (h:LeD g g') (h':LeD g' g''):LeD g g'':=
 ⟨h.toLe0.trans h'.toLe0,Nat.le_trans h.top h'.top,fun b hb=>(h'.new b hb).elim (h.new b) fun hb=> .inr (Nat.le_trans h.top hb)⟩
theorem LeD.le {g g':G} (h:LeD g g') (hd:g'.dfs=g.dfs):Le g g':=⟨h.toLe0,h.top,h.new,hd⟩
theorem LeD.refl (g:G):LeD g g:=(Le.refl g).toD
def G.with (g:G) (d:List Deferred):G:={g with dfs:=d}
theorem ZHC (g:G) (d:List Deferred):Le0 g (g.with d):=⟨fun _ h=>h,fun _ _=>rfl,fun _ _=>rfl,rfl,ZI0 g⟩
theorem ZH0 (g:G) (d:List Deferred):LeD g (g.with d):=⟨ZHC g d,Nat.le_refl _,fun _ h=> .inl h⟩
theorem HR.with (hh:HR g h w) (d:List Deferred):HR (g.with d) h w:=
 ⟨hh.bs,hh.nx,hh.top,hh.mins,hh.grp,hh.blk,fun b o hx hb=>(hh.ob b o hx hb).mono (ZHC g d) hx rfl,hh.tl,hh.ty,hh.i1,hh.i2,hh.i4,hh.dm,⟨hh.dt.kp,hh.dt.dj,hh.dt.fr⟩⟩
theorem Grew.with {g':G} {w':World} (hg:Grew g w g' w') (d d':List Deferred):Grew (g.with d) w (g'.with d') w':=⟨hg.os,hg.tape,hg.output,hg.size,hg.old,hg.img,hg.pr⟩
def mark (r:Nat):Deferred:={target:= .collected r,args:= #[]}
def Mk (b0:Nat) (ds:List Deferred) (g:G) (w:World):Prop:= ∃bs:List Nat,ds=bs.map mark/\bs.Nodup/\ ∀r∈bs,b0<=r/\w.heap[r]? =some (.deferred (some []))/\(∀b,g.ex b->(g.β b).1≠r)/\g.pr0 r=0
theorem Mk.nil {b0:Nat}:Mk b0 [] g w:=⟨[],rfl,List.nodup_nil,fun r h=>by cases h⟩
theorem Mk.mono {b0:Nat} {ds:List Deferred} {g':G} {w':World} (hm:Mk b0 ds g w) (hg:Grew g w g' w'):Mk b0 ds g' w':=by
 obtain ⟨bs,h1,h2,h3⟩:=hm
 refine ⟨bs,h1,h2,fun r hr=>?_⟩
 obtain ⟨q1,q2,q3,q4⟩:=h3 r hr
 have hlt:r<w.heap.size:=(Array.getElem?_eq_some_iff.1 q2).1
 refine ⟨q1,by rw [hg.old r hlt q3];exact q2,fun b hb he=>?_,(hg.pr r hlt).trans q4⟩
 rcases hg.img b hb with ⟨b1,h1,h2⟩|h1
 ·exact q3 b1 h1 (h2.trans he)
 ·omega
def DoneD (b0 nt:Nat) (e':Env) (h':H) (g:G) (w:World) (Q:Act->World->Prop):Prop:=
 ∀a' w' g',EnvR g' e' a'->nt<=a'.tmps.size->HR g' h' w'->LeD g g'->Grew g w g' w'->Mk b0 g'.dfs g' w'->Q a' w'
theorem DoneD.next {b0 nt:Nat} {Q:Act->World->Prop} {g':G} {w':World} (hd:DoneD b0 nt e' h' g w Q) (hl:LeD g g') (hg:Grew g w g' w'):DoneD b0 nt e' h' g' w' Q:=
 fun a2 w2 g2 h1 h2 h3 h4 h5 h6=>hd a2 w2 g2 h1 h2 h3 (hl.trans h4) (hg.trans h5) h6
theorem DoneD.done {b0 nt:Nat} {Q:Act->World->Prop} (hd:DoneD b0 nt e' h' g w Q) (hm:Mk b0 g.dfs g w):Done nt e' h' g w Q:=
 fun a2 w2 g2 h1 h2 h3 h4 h5=>hd a2 w2 g2 h1 h2 h3 h4.toD h5 (by rw [h4.dfs];exact hm.mono h5)
theorem ZJp {F:Fence} {n0:Nat} {P:Program} {Q:Exit->Act->World->Prop} {c:Code} (I:Nat->Act->World->Prop)
   (round: ∀n a w,I n a w->c.wpIn F n0 P (Exit.then (fun a' w'=> ∃m,m<n/\I m a' w') Q) a w) {n:Nat} {a:Act} {w:World} (h₀:I n a w):(Code.loop c).wpIn F n0 P Q a w:=by
 intro b k cs hro hb hr
 have key: ∀n a w,I n a w-> ∃e a' w',Q e a' w'/\ArrivesIn (Machine.fenced P F) P (lone (b.atR a (.code c:: .inLoop c::k)) cs w) b k cs e a' w':=by
   intro n
   induction n using Nat.strongRecOn with
   | _ n ih=>
     intro a w hI
     obtain ⟨e,a₁,w₁,hq,harr⟩:=round n a w hI b (.inLoop c::k) cs hro hb hr
     cases e with
     | normal=>
       obtain ⟨m,hm,hI₁⟩:=hq
       obtain ⟨e₂,a₂,w₂,hq₂,harr₂⟩:=ih m hm a₁ w₁ hI₁
       exact ⟨e₂,a₂,w₂,hq₂,.of_steps (StepsIn.trans harr (.one (fenced_calm hb hr rfl) stepR_inLoop)) harr₂⟩
     | exit id=>exact ⟨_,a₁,w₁,hq,.pass (x:= .inLoop c) rfl (fun _ _=> .inl Zs) harr⟩
     | goto l=>exact ⟨_,a₁,w₁,hq,.pass (x:= .inLoop c) rfl (fun _ _=> .inl Zs) harr⟩
     | ret=>exact ⟨_,a₁,w₁,hq,.pass (x:= .inLoop c) rfl (fun _ _=> .inl Zs) harr⟩
     | panic ch=>exact ⟨_,a₁,w₁,hq,.pass (x:= .inLoop c) rfl (fun _ _=> .inl Zs) harr⟩
     | outgrown=>exact ⟨_,a₁,w₁,hq,.pass (x:= .inLoop c) rfl (fun _ _=> .inl Zs) harr⟩
 obtain ⟨e,a',w',hq,harr⟩:=key _ a w h₀
 exact ⟨e,a',w',hq,.of_steps (.one (fenced_calm hb hr rfl) stepR_loop) harr⟩
section
variable {b:Frame} {k:List Item} {cs:List Frame}
theorem ZLK {c:Code}:step P (lone (b.atR a (.code (.scope c)::k)) cs w)= .next (lone (b.atR a (.code c:: .inScope c::k)) cs w):=
 step_lone_go (by simp [stepG,stepG.exec,Frame.atR])
theorem ZKh {c:Code}:step P (lone (b.atR a (.inScope c::k)) cs w)= .next (lone (b.atR a k) cs w):=
 step_lone_go (by simp [stepG,stepG.exec,Frame.atR])
end
theorem ZHo {F:Fence} {n:Nat} {Q:Exit->Act->World->Prop} {c:Code} (h:c.wpIn F n P (Exit.noGoto Q) a w):(Code.scope c).wpIn F n P Q a w:=by
 intro b k cs hro hb hr
 obtain ⟨e,a₁,w₁,hq,harr⟩:=h b (.inScope c::k) cs hro hb hr
 have s1:StepsIn (Machine.fenced P F) P (lone (b.atR a (.code (.scope c)::k)) cs w) (lone (b.atR a (.code c:: .inScope c::k)) cs w):= .one (fenced_calm hb hr rfl) ZLK
 cases e with
 | normal=>exact ⟨.normal,a₁,w₁,hq,StepsIn.trans s1 (StepsIn.trans harr (.one (fenced_calm hb hr rfl) ZKh))⟩
 | exit id=>exact ⟨_,a₁,w₁,hq,.of_steps s1 ⟨fun k' hk=>harr.1 k' (by simp [exitTo,hk]),fun hr hk=>harr.2 hr (by simp [exitTo,hk])⟩⟩
 | goto l=>exact hq.elim
 | ret=>exact ⟨_,a₁,w₁,hq,.of_steps s1 harr⟩
 | panic ch=>exact ⟨_,a₁,w₁,hq,.of_steps s1 harr⟩
 | outgrown=>exact ⟨_,a₁,w₁,hq,.of_steps s1 harr⟩
def Zv5 (P:Program) (tab:Nat->Option Fn) (n:Nat):Prop:=
 ∀(r:Bool) (nt:Nat) (c:Code) (e:Env) (h:H) (x:X) (e':Env) (h':H),exec P tab n r nt c e h=some (x,e',h')-> ∀(R:Option Nat) (b0:Nat) (g:G) (a:Act) (w:World),(r=false->R=none)->HR g h w->EnvR g e a->
  nt<=a.tmps.size->Mk b0 g.dfs g w->b0<=w.heap.size-> ∀Q:Exit->Act->World->Prop,DoneD b0 nt e' h' g w (Q x.toExit)->c.wpIn (FR R) 0 P Q a w
theorem ZLA {tab:Nat->Option Fn} (hF:ZHn F) {nt:Nat} {ops:Array Oper}: ∀(l:List Oper) {e:Env} {h:H} {x:Env×H},runV P F nt ops l e h=some x->h.next<=x.2.next
 | [],e,h,x,hx=>by
   simp only [runV,Option.some.injEq] at hx
   subst hx
   exact Nat.le_refl _
 | o::l,e,h,x,hx=>by
   simp only [runV] at hx
   split at hx
   · rename_i e1 h1 hst
     obtain ⟨b,ov,_,h2,h3,_⟩:=ZHJ hst
     refine Nat.le_trans ?_ (ZLA (tab:=tab) hF l hx)
     cases b with
     | true=>exact ZKR hF (h2 rfl)
     | false=>have h4:=(h3 rfl).2;simp only at h4;rw [h4];exact Nat.le_refl _
   · cases hx
def ZIJ (P:Program) (tab:Nat->Option Fn):Prop:= ∀f,match tab f with
 | some (.code fn)=>P.funcs[f]? =some fn
 | some (.prim p)=> ∀args h v h',p args h=some (v,h')->ZHF P f args h v h'/\h.next<=h'.next
 | some (.ext p)=> ∀args h v,p args=some v->ZHF P f args h v h
 | none=>True
theorem ZL5 {tab:Nat->Option Fn} (hT:ZIJ P tab) {ex:Ex} (he: ∀r nt c e h x e' h',ex r nt c e h=some (x,e',h')->h.next<=h'.next):ZHn (ZMq P tab ex):=by
 intro f args h v h' hx
 have hTf:=hT f
 unfold ZMq at hx
 split at hx
 ·split at hx
  ·split at hx
   ·cases hx
   ·split at hx
    ·cases hx
    ·rename_i x e h2 hnx hex
     split at hx
     ·simp only [Option.some.injEq,Prod.mk.injEq] at hx
      obtain ⟨_,rfl⟩:=hx
      exact he _ _ _ _ _ _ _ _ hex
     ·cases hx
    ·cases hx
  ·cases hx
 ·rename_i p hp
  rw [hp] at hTf
  exact (hTf _ _ _ _ hx).2
 ·simp only [Option.map_eq_some_iff,Prod.mk.injEq] at hx
  obtain ⟨_,_,_,rfl⟩:=hx
  exact Nat.le_refl _
 ·cases hx
theorem ZI1 {ex:Ex} {l:Nat} {args:List V} {v:V} (hx:ZLz ex l args h=some (v,h')): ∃e nt ps as bd e1 h1 p2 e2 nt2 ps2 as2 bd2 x e4 h2 st3 p3 e3 nt3 ps3 as3 bd3,
  h.obs.get l=some (.loop .ready none e nt ps as bd)/\args.length=ps.length/\(∀t∈ps,t<nt)/\ex true nt as (ZKY ps args e) h=some (.normal,e1,h1)/\h1.obs.get l=some (.loop .ready p2 e2 nt2 ps2 as2 bd2)/\
  ex true nt bd e1 (h1.setObj l (.loop .busy p2 e2 nt2 ps2 as2 bd2))=some (x,e4,h2)/\h2.obs.get l=some (.loop st3 p3 e3 nt3 ps3 as3 bd3)/\v= .bool (ZHM x)/\
  h'=h2.setObj l (.loop (if ZHM x then .ready else .done) (ZMA x) e3 nt3 ps3 as3 bd3):=by
 unfold ZLz at hx
 split at hx
 ·rename_i e nt ps as bd hob
  split at hx
  ·rename_i hc
   simp only [Bool.and_eq_true,beq_iff_eq,List.all_eq_true,Nat.blt_eq] at hc
   split at hx
   ·rename_i e1 h1 hex
    split at hx
    ·rename_i p2 e2 nt2 ps2 as2 bd2 hob1
     split at hx
     ·rename_i x e4 h2 hex2
      split at hx
      ·rename_i st3 p3 e3 nt3 ps3 as3 bd3 hob2
       simp only [Option.some.injEq,Prod.mk.injEq] at hx
       exact ⟨_,_,_,_,_,_,_,_,_,_,_,_,_,_,_,_,_,_,_,_,_,_,_,hob,hc.1,hc.2,hex,hob1,hex2,hob2,hx.1.symm,hx.2.symm⟩
      ·cases hx
     ·cases hx
    ·cases hx
   ·cases hx
  ·cases hx
 ·cases hx
theorem ZHN {tab:Nat->Option Fn} (hT:ZIJ P tab) {ex:Ex} (he: ∀r nt c e h x e' h',ex r nt c e h=some (x,e',h')->h.next<=h'.next):ZHn (Zja P tab ex):=by
 intro f args h v h' hx
 unfold Zja at hx
 cases hlt:Nat.blt f YB with
 | true=>
   rw [hlt] at hx
   simp only [cond_true] at hx
   exact ZL5 hT he _ _ _ _ _ hx
 | false=>
   rw [hlt] at hx
   simp only [cond_false] at hx
   obtain ⟨l,hl⟩: ∃l,l=Nat.sub f YB:=⟨_,rfl⟩
   rw [<-hl] at hx
   obtain ⟨e,nt,ps,as,bd,e1,h1,p2,e2,nt2,ps2,as2,bd2,x,e4,h2,st3,p3,e3,nt3,ps3,as3,bd3,_,_,_,q1,_,q2,_,_,rfl⟩:=ZI1 hx
   have z1:=he _ _ _ _ _ _ _ _ q1
   have z2:=he _ _ _ _ _ _ _ _ q2
   exact Nat.le_trans z1 z2
theorem ZJt {nt:Nat} {ps:List Nat} {as bd:Code} {f:V} {x:X} (hx:ZNk P F nt ps as bd f e h=some (x,e',h')): ∃f' first caps z h1 st pend e2 nt2 ps2 as2 bd2,
  f= .fn f' first caps/\(Nat.blt f' YB=true/\ZN0 P f'=true)/\F f' (first++[.yld h.next]++caps) (h.new (.loop .ready none e nt ps as bd))=some (z,h1)/\h1.obs.get h.next=some (.loop st pend e2 nt2 ps2 as2 bd2)/\st≠ .busy/\
  ZPW pend=some x/\e=e'/\h'=h1.setObj h.next (.loop .exhausted pend e2 nt2 ps2 as2 bd2):=by
 unfold ZNk at hx
 split at hx
 ·rename_i f' first caps
  split at hx
  ·rename_i hlt
   rw [Bool.and_eq_true] at hlt
   split at hx
   ·rename_i z h1 hcall
    split at hx
    ·rename_i st pend e2 nt2 ps2 as2 bd2 hob
     split at hx
     ·cases hx
     ·rename_i hst
      simp only [Option.map_eq_some_iff,Prod.mk.injEq] at hx
      obtain ⟨x',hj,rfl,rfl,rfl⟩:=hx
      exact ⟨_,_,_,_,_,_,_,_,_,_,_,_,rfl,hlt,hcall,hob,fun hb=>hst (by rw [hb];rfl),hj,rfl,rfl⟩
    ·cases hx
   ·cases hx
  ·cases hx
 ·cases hx
theorem ZLs {tab:Nat->Option Fn} (hT:ZIJ P tab): ∀(n:Nat) (r:Bool) (nt:Nat) (c:Code) (e:Env) (h:H) (x:X) (e':Env) (h':H),exec P tab n r nt c e h=some (x,e',h')->h.next<=h'.next
 | 0,_,_,_,_,_,_,_,_,hx=>by simp [exec] at hx
 | n+1,r,nt,c,e,h,x,e',h',hx=>by
   have ih:=ZLs hT n
   cases c with
   | skip=>simp only [exec,Option.some.injEq,Prod.mk.injEq] at hx;obtain ⟨_,_,rfl⟩:=hx;exact Nat.le_refl _
   | label l=>simp only [exec,Option.some.injEq,Prod.mk.injEq] at hx;obtain ⟨_,_,rfl⟩:=hx;exact Nat.le_refl _
   | exit id=>simp only [exec,Option.some.injEq,Prod.mk.injEq] at hx;obtain ⟨_,_,rfl⟩:=hx;exact Nat.le_refl _
   | ret=>simp only [exec,Option.some.injEq,Prod.mk.injEq] at hx;obtain ⟨_,_,rfl⟩:=hx;exact Nat.le_refl _
   | scope b=>simp only [exec] at hx;exact ih _ _ _ _ _ _ _ _ hx
   | region id ops draw=>
     simp only [exec] at hx
     split at hx
     · rename_i e1 h1 hr
       simp only [Option.some.injEq,Prod.mk.injEq] at hx
       obtain ⟨_,_,rfl⟩:=hx
       split at hr
       · exact ZMQ (ZHN hT ih) hr
       · exact ZLA (tab:=tab) (ZHN hT ih) _ hr
     · cases hx
   | seq c1 c2=>
     simp only [exec] at hx
     split at hx
     · rename_i e1 h1 h2
       exact Nat.le_trans (ih _ _ _ _ _ _ _ _ h2) (ih _ _ _ _ _ _ _ _ hx)
     · exact ih _ _ _ _ _ _ _ _ hx
   | cond x0 c1 c2=>
     simp only [exec] at hx
     split at hx
     · exact ih _ _ _ _ _ _ _ _ hx
     · cases hx
   | block id c1=>
     simp only [exec] at hx
     split at hx
     · rename_i i e1 h1 hr
       split at hx<;>
       · simp only [Option.some.injEq,Prod.mk.injEq] at hx
         obtain ⟨_,_,rfl⟩:=hx
         exact ih _ _ _ _ _ _ _ _ hr
     · exact ih _ _ _ _ _ _ _ _ hx
   | loop c1=>
     simp only [exec] at hx
     split at hx
     · rename_i e1 h1 hr
       exact Nat.le_trans (ih _ _ _ _ _ _ _ _ hr) (ih _ _ _ _ _ _ _ _ hx)
     · exact ih _ _ _ _ _ _ _ _ hx
   | rangeFunc f ps as bd=>
     simp only [exec] at hx
     split at hx
     · cases hx
     · split at hx
       · obtain ⟨f',first,caps,z,h1,st,pend,e2,nt2,ps2,as2,bd2,_,_,q1,_,_,_,_,rfl⟩:=ZJt hx
         have z1:=ZHN hT ih _ _ _ _ _ q1
         exact Nat.le_trans (Nat.le_succ _) z1
       · cases hx
   | _=>simp [exec] at hx
theorem ZIC {tab:Nat->Option Fn} (hT:ZIJ P tab) (n:Nat):ZHn (Zja P tab (exec P tab n)):=ZHN hT (ZLs hT n)
theorem ZML: ∀{ps:List Nat} {vs:List V} {us:List Value} {e:Env} {ts:Array Value} {nt:Nat},Rels g vs us->nt<=ts.size->(∀t∈ps,t<nt)->(∀t v,e.get t=some v->Rel g v (ts.getD t undef))->
   nt<=((ps.zip us).foldl (fun (tmps:Array Value) (x:Nat×Value)=>tmps.setIfInBounds x.1 x.2) ts).size/\ ∀t v,(ZKY ps vs e).get t=some v->Rel g v (((ps.zip us).foldl (fun (tmps:Array Value) (x:Nat×Value)=>tmps.setIfInBounds x.1 x.2) ts).getD t undef)
 | [],vs,us,e,ts,nt,_,hn,_,he=>⟨by simpa using hn,fun t v hv=>by simp only [ZKY] at hv;simpa using he t v hv⟩
 | p::ps,[],us,e,ts,nt,hr,hn,_,he=>by
   simp only [Rels] at hr
   subst hr
   exact ⟨by simpa using hn,fun t v hv=>by simp only [ZKY] at hv;simpa using he t v hv⟩
 | p::ps,v::vs,us,e,ts,nt,hr,hn,hp,he=>by
   simp only [Rels] at hr
   obtain ⟨u,us,rfl,h1,h2⟩:=hr
   simp only [List.zip_cons_cons,List.foldl_cons,ZKY]
   have hpl:p<nt:=hp p Zs
   refine ZML h2 (by simpa using hn) (fun t ht=>hp t (List.mem_cons_of_mem _ ht)) fun t x hx=>?_
   rw [T.get_set] at hx
   split at hx
   · rename_i htp
     cases hx
     subst htp
     have:t<ts.size:=by omega
     simpa [Array.getD,this] using h1
   · rename_i htp
     have:=he t x hx
     simp only [Array.getD_eq_getD_getElem?] at this⊢
     rw [Array.getElem?_setIfInBounds_ne (Ne.symm htp)]
     exact this
theorem ZL8 (hF:Zcv P F) {b0 nt:Nat} (hh:HR g h w) (he:EnvR g e a) (hs:nt<=a.tmps.size) (hm:Mk b0 g.dfs g w) (hb:b0<=w.heap.size) {x0:Operand} {ps:Array Tmp} {as bd:Code} {v:V} {x:X} (hv:ev e x0=some v)
   (hx:ZNk P F nt ps.toList as bd v e h=some (x,e',h')) {Q:Exit->Act->World->Prop} (hD:DoneD b0 nt e' h' g w (Q x.toExit)):(Code.rangeFunc x0 ps as bd).wpIn (FR none) 0 P Q a w:=by
 obtain ⟨f',first,caps,z,h1,st,pend,e2,nt2,ps2,as2,bd2,rfl,⟨hlt,hent⟩,hcall,hob,hst,hj,rfl,rfl⟩:=ZJt hx
 have hfr:=ZG2 he hv
 simp only [Rel] at hfr
 obtain ⟨fs,cs,hval,r1,r2⟩:=hfr
 refine wpIn_rangeFunc fun fn _=>?_
 have hent:Zhz P f'=true:=hent
 obtain ⟨q2,hq2⟩: ∃q2:G,q2=g.grow h.next (w.heap.size+1) 0:=⟨_,rfl⟩
 obtain ⟨r0,hr0⟩: ∃r0:Loop,r0={state:= .ready,pending:=none,fn,tmps:=a.tmps,params:=ps,assign:=as,body:=bd,defers:=w.heap.size}:=⟨_,rfl⟩
 obtain ⟨w1,hw1⟩: ∃w1:World,w1=w.alloc (.deferred (some [])):=⟨_,rfl⟩
 have hsz1:w1.heap.size=w.heap.size+1:=by rw [hw1];exact World.size_alloc ..
 have hget1: ∀k,k<w.heap.size->w1.heap[k]? =w.heap[k]? :=fun k hk=>by
   rw [hw1]
   show (w.heap.push _)[k]? =_
   rw [Array.getElem?_push,if_neg Zo]
 have hh1:HR g h w1:=hh.frame Zo (fun b hb=>hget1 b ((Nat.lt_or_ge b w.heap.size).resolve_right fun h=>hb (hh.dt.fr b h))) fun b hb=>hget1 _ (hh.blk b hb).2
 have hg1:Grew g w g w1:=⟨by rw [hw1];rfl,by rw [hw1];rfl,by rw [hw1];rfl,by omega,fun k hk _=>hget1 k hk,fun b hb=> .inl ⟨b,hb,rfl⟩,fun _ _=>rfl⟩
 obtain ⟨w2,hw2⟩: ∃w2:World,w2=w1.alloc (.loop r0):=⟨_,rfl⟩
 have hh2:HR q2 (h.new (.loop .ready none e nt ps.toList as bd)) w2:=by
   have:=hh1.push (.loop .ready none e nt ps.toList as bd) (.loop r0) 0 (by
     unfold ObOK
     rw [ZHa]
     refine ⟨r0,by show (w1.heap.push _)[_]? =_;simp,?_,rfl⟩
     rw [hr0]
     exact ⟨rfl,rfl,rfl,rfl,rfl,hs,fun t v hv=>(he.2 t v hv).mono (ZHf g hh.fresh _ _)⟩) (fun _ _ _ _ h=>by cases h) none (fun _ _ h=>by cases h)
   rw [hq2,hw2,<-hsz1]
   exact this
 have hle2:Le g q2:=by rw [hq2];exact hh1.le_grow _ _
 have hg2:Grew g w1 q2 w2:=by
   rw [hq2,hw2,<-hsz1]
   exact ZHx hh.fresh (.loop r0) 0
 have hex2:q2.ex h.next:=by rw [hq2];exact ZNP g _ _ _
 have hβ2:q2.β h.next=(w.heap.size+1,0):=by rw [hq2];exact ZHa g _ _ _
 have hmk2:Mk b0 (mark w.heap.size::g.dfs) q2 w2:=by
   obtain ⟨bs,m1,m2,m3⟩:=hm.mono (hg1.trans hg2)
   obtain ⟨bs',m1',m2',m3'⟩:=hm
   have hbs:bs'=bs:=by
     have:=m1'.symm.trans m1
     refine List.map_inj_right (f:=mark) (fun x y hxy=>?_)|>.1 this
     unfold mark at hxy
     simpa using hxy
   subst hbs
   refine ⟨w.heap.size::bs',by rw [List.map_cons,<-m1],List.nodup_cons.2 ⟨fun hin=>?_,m2⟩,fun r hr=>?_⟩
   · have:=(Array.getElem?_eq_some_iff.1 (m3' _ hin).2.1).1
     omega
   · rcases List.mem_cons.1 hr with rfl|hr
     · refine ⟨hb,?_,fun b hb=>?_,?_⟩
       · rw [hg2.old _ Zo fun b hb he=>by have:=(hh.blk b hb).2;omega]
         rw [hw1]
         exact World.alloc_heap_new ..
       · rcases hg2.img b hb with ⟨b1,z1,z2⟩|z1
         · have:=(hh.blk b1 z1).2;omega
         · omega
       · rw [hq2]
         exact hh.dt.fr _ (Nat.le_refl _)
     · exact m3 r hr
 have hrel:Rels q2 (first++[.yld h.next]++caps) (fs++[Value.func (.yield (w.heap.size+1)) #[] #[]]++cs):=by
   have hy:Rels q2 [.yld h.next] [Value.func (.yield (w.heap.size+1)) #[] #[]]:=by
     simp only [Rels,Rel]
     exact ⟨_,_,rfl,⟨hex2,by rw [hβ2]⟩,rfl⟩
   exact ((r1.mono hle2.toLe0).append hy).append (r2.mono hle2.toLe0)
 have heq:(fs.toArray++ #[Value.func (.yield (w.heap.size+1)) #[] #[]]++cs.toArray)=(fs++[Value.func (.yield (w.heap.size+1)) #[] #[]]++cs).toArray:=by
   apply Array.toList_inj.1
   simp
 refine ⟨w.heap.size+1,[mark w.heap.size],w2,{target:= .fn (.func f') cs.toArray,args:=fs.toArray++ #[.func (.yield (w.heap.size+1)) #[] #[]]},w2,f',_,w2,?_,?_,fun _ _=>trivial,Zpc hent _ _,fun hd=>(by cases hd),?_⟩
 · show (Instr.enterLoop fn a.tmps ps as bd none).run P w=_
   rw [run_enterLoop_outer,hw2,hw1,hr0]
   rfl
 · simp only [resolve,rangeCall,hval,Deferred.ofValue,Sem.run_pure]
   simp [Act.eval]
 · rcases (hF _ _ _ _ _ hcall).1 hlt with ⟨_,c2⟩|⟨_,c2⟩
   · refine ZJk.2 ?_
     rw [heq]
     refine (c2 q2 w2 _ hh2 hrel).mono ?_
     rintro r w3 ⟨u,q3,rfl,z1,hh3,hle3,hg3⟩
     have hex3:q3.ex h.next:=hle3.ex _ hex2
     have hβ3:q3.β h.next=(w.heap.size+1,0):=by rw [hle3.β _ hex2];exact hβ2
     have hO:=hh3.ob _ _ hex3 hob
     unfold ObOK at hO
     obtain ⟨r,k1,k2,k3⟩:=hO
     have k1':w3.heap[w.heap.size+1]? =some (.loop r):=by rw [hβ3] at k1;exact k1
     have hend:=run_endLoop (P:=P) k1' (by rw [k2.state];exact hst)
     refine ⟨pend.map X.code,w3.putObj (w.heap.size+1) (.loop {r with state:= .exhausted}),hend.trans (congrArg (fun j=>Result.ok j _) k2.pend),?_⟩
     have hput:=hh3.putObj (o':= .loop .exhausted pend e2 nt2 ps2 as2 bd2) (ob:= .loop {r with state:= .exhausted}) hex3 hob rfl rfl (by
       unfold ObOK
       exact ⟨_,Zyb hh3 hex3 _,⟨rfl,k2.pend,k2.ps,k2.assign,k2.body,k2.nt,k2.env⟩,k3⟩)
     have hgp:=ZHA hh3 hex3 (.loop {r with state:= .exhausted})
     rw [hβ3] at hput hgp
     have hD':Q x.toExit {a with defers:=[mark w.heap.size]++a.defers} (w3.putObj (w.heap.size+1) (.loop {r with state:= .exhausted})):=by
       refine hD _ _ (q3.with (mark w.heap.size::g.dfs)) ⟨by rw [<-he.1];rfl,fun t v hv=>?_⟩ hs (hput.with _) ?_ ?_ ?_
       · exact ((he.2 t v hv).mono (hle2.trans hle3).toLe0).mono (ZHC _ _)
       · exact (hle2.trans hle3).toD.trans (ZH0 _ _)
       · have:=(((hg1.trans hg2).trans hg3).trans hgp).with g.dfs (mark w.heap.size::g.dfs)
         exact this
       · exact ((hmk2.mono hg3).mono hgp).mono ((Grew.refl q3 _).with q3.dfs (mark w.heap.size::g.dfs))
     cases pend with
     | none=>
       simp only [ZPW,Option.some.injEq] at hj
       subst hj
       exact hD'
     | some y=>
       cases y with
       | normal=>cases hj
       | exit i=>
         simp only [ZPW,Option.some.injEq] at hj
         subst hj
         exact wpIn_exit hD'
       | ret=>
         simp only [ZPW,Option.some.injEq] at hj
         subst hj
         exact wpIn_ret hD'
   · obtain ⟨u,c3,_⟩:=c2 q2 w2 _ hrel
     rw [Zpc hent] at c3
     cases c3
theorem Zs2 {tab:Nat->Option Fn} (hN: ∀n,ZHn (Zja P tab (exec P tab n))) (hC: ∀n,Zv5 P tab n->Zcv P (Zja P tab (exec P tab n))): ∀n,∀k,k<=n->Zv5 P tab k:=by
 intro n
 induction n with
 | zero=>
   intro k hk r nt c e h x e' h' hx
   have:k=0:=by omega
   subst this
   simp [exec] at hx
 | succ n ih=>
   intro k hk
   rcases Nat.lt_or_ge k (n+1) with hlt|hge
   · exact ih k Zo
   have:k=n+1:=by omega
   subst this
   have hP:=ih n (Nat.le_refl _)
   intro r nt c e h x e' h' hx R b0 g a w hR hh he hs hm hb Q hD
   cases c with
   | skip=>
     simp only [exec,Option.some.injEq,Prod.mk.injEq] at hx
     obtain ⟨rfl,rfl,rfl⟩:=hx
     exact wpIn_skip (hD a w g he hs hh (LeD.refl g) (Grew.refl _ _) hm)
   | label l=>
     simp only [exec,Option.some.injEq,Prod.mk.injEq] at hx
     obtain ⟨rfl,rfl,rfl⟩:=hx
     exact wpIn_label (hD a w g he hs hh (LeD.refl g) (Grew.refl _ _) hm)
   | region id ops draw=>
     simp only [exec] at hx
     split at hx
     · rename_i e1 h1 hr
       simp only [Option.some.injEq,Prod.mk.injEq] at hx
       obtain ⟨rfl,rfl,rfl⟩:=hx
       split at hr
       · rename_i hdr
         subst hdr
         exact ZK6 (hC n hP) (hN n) hh he hs hr (hD.done hm)
       · rename_i hdr
         have hdr:draw=false:=by simpa using hdr
         subst hdr
         refine wpIn_region ?_
         rw [List.range_eq_range']
         exact ZpG (hC n hP) ops.size 0 Zo hh he hs (by simpa using hr) (hD.done hm)
     · cases hx
   | seq c1 c2=>
     simp only [exec] at hx
     refine wpIn_seq ?_
     split at hx
     · rename_i e1 h1 h2
       refine hP r nt c1 e h .normal e1 h1 h2 R b0 g a w hR hh he hs hm hb _ fun a1 w1 g1 q1 q2 q3 q4 q5 q6=>?_
       exact hP r nt c2 e1 h1 x e' h' hx R b0 g1 a1 w1 hR q3 q1 q2 q6 (Nat.le_trans hb q5.size) Q (hD.next q4 q5)
     · rename_i r0 hr
       refine hP r nt c1 e h x e' h' hx R b0 g a w hR hh he hs hm hb _ fun a1 w1 g1 q1 q2 q3 q4 q5 q6=>?_
       have hq:=hD a1 w1 g1 q1 q2 q3 q4 q5 q6
       cases x with
       | normal=>exact absurd hx (fun hh=>hr _ _ hh)
       | exit id=>exact hq
       | ret=>exact hq
   | cond x0 c1 c2=>
     simp only [exec] at hx
     split at hx
     · rename_i t ht
       refine wpIn_cond (ZHr (ZG2 he ht)) ?_
       cases t with
       | true=>exact hP r nt c1 e h x e' h' hx R b0 g a w hR hh he hs hm hb Q hD
       | false=>exact hP r nt c2 e h x e' h' hx R b0 g a w hR hh he hs hm hb Q hD
     · cases hx
   | block id c1=>
     simp only [exec] at hx
     refine wpIn_block ?_
     split at hx
     · rename_i i e1 h1 hr
       refine hP r nt c1 e h (.exit i) e1 h1 hr R b0 g a w hR hh he hs hm hb _ fun a1 w1 g1 q1 q2 q3 q4 q5 q6=>?_
       split at hx
       · rename_i hi
         simp only [Option.some.injEq,Prod.mk.injEq] at hx
         obtain ⟨rfl,rfl,rfl⟩:=hx
         have hi:i=id:=by simpa using hi
         simp only [X.toExit,Exit.inBlock,hi,if_true]
         exact hD a1 w1 g1 q1 q2 q3 q4 q5 q6
       · rename_i hi
         simp only [Option.some.injEq,Prod.mk.injEq] at hx
         obtain ⟨rfl,rfl,rfl⟩:=hx
         have hi:i≠id:=by simpa using hi
         simp only [X.toExit,Exit.inBlock,hi,if_false]
         exact hD a1 w1 g1 q1 q2 q3 q4 q5 q6
     · rename_i r0 hr
       refine hP r nt c1 e h x e' h' hx R b0 g a w hR hh he hs hm hb _ fun a1 w1 g1 q1 q2 q3 q4 q5 q6=>?_
       have hq:=hD a1 w1 g1 q1 q2 q3 q4 q5 q6
       cases x with
       | normal=>exact hq
       | exit i=>exact absurd hx (fun hh=>hr _ _ _ hh)
       | ret=>exact hq
   | loop c1=>
     let I:Nat->Act->World->Prop:=fun m a w=>m<=n+1/\ ∃g1 e1 h1,exec P tab m r nt (.loop c1) e1 h1=some (x,e',h')/\HR g1 h1 w/\EnvR g1 e1 a/\nt<=a.tmps.size/\Mk b0 g1.dfs g1 w/\b0<=w.heap.size/\DoneD b0 nt e' h' g1 w (Q x.toExit)
     refine ZJp I (n:=n+1) (fun m a w hI=>?_) ⟨Nat.le_refl _,g,e,h,hx,hh,he,hs,hm,hb,hD⟩
     obtain ⟨hmn,g1,e1,h1,hx1,hh1,he1,hs1,hm1,hb1,hD1⟩:=hI
     cases m with
     | zero=>simp [exec] at hx1
     | succ m=>
       simp only [exec] at hx1
       have hPm:=ih m Zo
       split at hx1
       · rename_i e2 h2 hr
         refine hPm r nt c1 e1 h1 .normal e2 h2 hr R b0 g1 a w hR hh1 he1 hs1 hm1 hb1 _ fun a2 w2 g2 q1 q2 q3 q4 q5 q6=>?_
         exact ⟨m,by omega,by omega,g2,e2,h2,hx1,q3,q1,q2,q6,Nat.le_trans hb1 q5.size,hD1.next q4 q5⟩
       · rename_i r0 hr
         refine hPm r nt c1 e1 h1 x e' h' hx1 R b0 g1 a w hR hh1 he1 hs1 hm1 hb1 _ fun a2 w2 g2 q1 q2 q3 q4 q5 q6=>?_
         have hq:=hD1 a2 w2 g2 q1 q2 q3 q4 q5 q6
         cases x with
         | normal=>exact absurd hx1 (fun hh=>hr _ _ hh)
         | exit i=>exact hq
         | ret=>exact hq
   | exit id=>
     simp only [exec,Option.some.injEq,Prod.mk.injEq] at hx
     obtain ⟨rfl,rfl,rfl⟩:=hx
     exact wpIn_exit (hD a w g he hs hh (LeD.refl g) (Grew.refl _ _) hm)
   | ret=>
     simp only [exec,Option.some.injEq,Prod.mk.injEq] at hx
     obtain ⟨rfl,rfl,rfl⟩:=hx
     exact wpIn_ret (hD a w g he hs hh (LeD.refl g) (Grew.refl _ _) hm)
   | scope b=>
     simp only [exec] at hx
     refine ZHo (hP r nt b e h x e' h' hx R b0 g a w hR hh he hs hm hb _ fun a1 w1 g1 q1 q2 q3 q4 q5 q6=>?_)
     have hq:=hD a1 w1 g1 q1 q2 q3 q4 q5 q6
     cases x with
     | normal=>exact hq
     | exit i=>exact hq
     | ret=>exact hq
   | rangeFunc f ps as bd=>
     simp only [exec] at hx
     split at hx
     · cases hx
     · rename_i hr
       have hR':R=none:=hR (by simpa using hr)
       subst hR'
       split at hx
       · rename_i v hv
         exact ZL8 (hC n hP) hh he hs hm hb hv hx hD
       · cases hx
   | _=>simp [exec] at hx
theorem ZqV: ∀(xs:List V) (k j:Nat) (e:Env),(enter k xs e).get j=if k<=j/\j<k+xs.length then xs[j-k]? else e.get j
 | [],k,j,e=>by
   have: ¬(k<=j/\j<k+0):=by omega
   simp only [enter,List.length_nil,this,if_false]
 | x::xs,k,j,e=>by
   simp only [enter]
   rw [ZqV xs (k+1) j,T.get_set]
   by_cases h1:j=k
   · subst h1
     have h2: ¬(j+1<=j/\j<j+1+xs.length):=by omega
     rw [if_neg h2,if_pos rfl,if_pos Zs]
     simp
   · by_cases h2:k+1<=j/\j<k+1+xs.length
     · rw [if_pos h2,if_pos Ze]
       rw [show j-k=(j-(k+1))+1 by omega]
       simp
     · rw [if_neg h2,if_neg h1,if_neg Ze]
theorem EnvR.begin {args:List V} {vs:List Value} {n:Nat} (hd:g.dfs=[]) (h:Rels g args vs):EnvR g (enter 0 args .nil) {tmps:=vs.toArray++Array.replicate (n-vs.toArray.size) undef,defers:=[]}:=by
 refine ⟨hd.symm,fun t v ht=>?_⟩
 obtain ⟨t,rfl⟩: ∃t₀:Nat,t₀=t:=⟨t,rfl⟩
 rw [ZqV] at ht
 obtain ⟨hl,hr⟩:=Rels.iff.1 h
 split at ht
 ·rename_i hlt
  simp only [Nat.sub_zero] at ht
  have hv:vs[t]? =some (vs[t]'(by omega)):=List.getElem?_eq_getElem _
  have hgd:(vs.toArray++Array.replicate (n-vs.toArray.size) undef).getD t undef=vs[t]'(by omega):=by
   simp only [Array.getD_eq_getD_getElem?]
   rw [Array.getElem?_append_left Ze]
   simp [hv]
  show Rel g v ((vs.toArray++Array.replicate (n-vs.toArray.size) undef).getD t undef)
  rw [hgd]
  exact hr t v _ ht hv
 ·rw [T.get_nil] at ht;cases ht
theorem ZMc (hh:HR g h w) (he:EnvR g e a): ∀{rs:List ResultVar} {vs:List V},resV P e h rs=some vs-> ∃us:List Value,Rels g vs us/\rs.length=us.length/\ ∀(j:Nat) x u,rs[j]? =some x->us[j]? =some u->(Zk0 a.tmps x).run P w= .ok u w
 | [],vs,hx=>by
   simp only [resV,Option.some.injEq] at hx;subst hx
   exact ⟨[],rfl,rfl,fun j x u h=>by simp at h⟩
 | .tmp t::r,vs,hx=>by
   simp only [resV] at hx
   split at hx
   · rename_i v vs' h1 h2
     simp only [Option.some.injEq] at hx;subst hx
     obtain ⟨us,q1,q2,q3⟩:=ZMc hh he h2
     refine ⟨a.tmps.getD t undef::us,⟨_,us,rfl,he.2 t v h1,q1⟩,by simp [q2],fun j x u hj hu=>?_⟩
     cases j with
     | zero=>simp only [List.getElem?_cons_zero,Option.some.injEq] at hj hu;subst hj;subst hu;rfl
     | succ j=>exact q3 j x u (by simpa using hj) (by simpa using hu)
   · cases hx
 | .cell p t::r,vs,hx=>by
   simp only [resV] at hx
   split at hx
   · rename_i pv h1
     split at hx
     · rename_i v vs' h2 h3
       simp only [Option.some.injEq] at hx;subst hx
       obtain ⟨us,q1,q2,q3⟩:=ZMc hh he h3
       unfold ZQv at h2
       split at h2
       · rename_i b i
         split at h2
         · rename_i cs hrd
           obtain ⟨hb,hv⟩:=ZIy (he.2 p _ h1)
           obtain ⟨vs,ty,r1,r2,r3,r4⟩:=hh.read hb hrd
           obtain ⟨u0,l1,l2⟩:=ZMv hh he r1 r4 h2
           refine ⟨u0::us,⟨_,us,rfl,l2,q1⟩,by simp [q2],fun j x u hj hu=>?_⟩
           cases j with
           | zero=>
             simp at hj hu;subst hj;subst hu
             simp only [Zk0]
             rw [hv]
             simp only [asAddr]
             rw [Sem.run_bind,Sem.run_pure,Result.andThen_ok]
             exact l1
           | succ j=>exact q3 j x u (by simpa using hj) (by simpa using hu)
         · cases h2
       · rename_i cs
         have hr:=he.2 p _ h1
         simp only [Rel] at hr
         obtain ⟨b,q,hv,hc⟩:=hr
         obtain ⟨u0,l1,l2⟩:=ZgH (P:=P) (g:=g) (w:=w) (b:=b) (i:=q) (fun j y hy=>by
           rw [List.getElem?_map,Option.map_eq_some_iff] at hy
           obtain ⟨z0,hz0,rfl⟩:=hy
           obtain ⟨u,r1,r2,r3⟩:=hc j z0 hz0
           exact ⟨u,hh.dt.kp _ _ _ r2 r1,ZKM r3⟩) h2
         refine ⟨u0::us,⟨_,us,rfl,l2,q1⟩,by simp [q2],fun j x u hj hu=>?_⟩
         cases j with
         | zero=>
           simp at hj hu;subst hj;subst hu
           simp only [Zk0]
           rw [hv]
           simp only [asAddr]
           rw [Sem.run_bind,Sem.run_pure,Result.andThen_ok]
           exact l1
         | succ j=>exact q3 j x u (by simpa using hj) (by simpa using hu)
       · cases h2
     · cases hx
   · cases hx
theorem ZPG {vs:List V} {us:List Value} (h:Rels g vs us):Rel g (retV vs) (Am.retV us):=by
 match vs,us,h with
 | [],us,h=>have:us=[]:=h;subst this;simp only [retV,Am.retV,Rel];exact ⟨[],rfl,rfl⟩
 | [v],us,h=>
   simp only [Rels] at h
   obtain ⟨u,r,rfl,h1,h2⟩:=h
   have:r=[]:=h2
   subst this
   exact h1
 | v::v'::vs,us,h=>
   have h0:=h
   simp only [Rels] at h
   obtain ⟨u,r,rfl,h1,u',r',rfl,h2,h3⟩:=h
   simp only [retV,Am.retV,Rel]
   exact ⟨_,rfl,h0⟩
theorem ZJv {n:Nat} {fn:Func} {tmps:Array Value} {Q:Ending->World->Prop} {g0:G} {w0:World}: ∀(bs:List Nat) (w:World),bs.Nodup->(∀r∈bs,w0.heap.size<=r/\w.heap[r]? =some (.deferred (some []))/\(∀b,g.ex b->(g.β b).1≠r)/\g.pr0 r=0)->
   HR g h w->Grew g0 w0 g w->(∀w',HR g h w'->Grew g0 w0 g w'-> ∃v,(results fn tmps).run P w'= .ok v w'/\Q (.returned v) w')->LeavesInM (FR none) n P fn tmps Q (bs.map mark) .returning w
 | [],w,_,_,hh,hg,hK=>hK w hh hg
 | r::bs,w,hn,hb,hh,hg,hK=>by
   obtain ⟨q1,q2,q3,q4⟩:=hb r Zs
   rw [List.nodup_cons] at hn
   refine ⟨by simp,.inl ⟨r,_,rfl,run_takeDeferred q2,?_⟩⟩
   have hlt:r<w.heap.size:=(Array.getElem?_eq_some_iff.1 q2).1
   have hget: ∀k,k≠r->(w.putObj r (.deferred none)).heap[k]? =w.heap[k]? :=fun k hk=>World.putObj_heap_other hk
   refine ZJv bs _ hn.2 (fun r' hr'=>?_) (hh.frame Zs (fun b hb=>hget b fun he=>hb (by rw [he];exact q4)) fun b hb=>hget _ (q3 b hb)) (hg.outside rfl rfl rfl Zs fun k hk=>hget k Zo) hK
   obtain ⟨z1,z2,z3⟩:=hb r' (List.mem_cons_of_mem _ hr')
   exact ⟨z1,by rw [hget r' fun he=>hn.1 (he ▸ hr')];exact z2,z3⟩
theorem ZMM {tab:Nat->Option Fn} (hT:ZIJ P tab) (n:Nat) (hE:Zv5 P tab n) {f:Nat} {args:List V} {v:V} (hx:ZMq P tab (exec P tab n) f args h=some (v,h')):ZHF P f args h v h':=by
 have hTf:=hT f
 unfold ZMq at hx
 split at hx
 ·rename_i fn hfn
  rw [hfn] at hTf
  have hfn:P.funcs[f]? =some fn:=hTf
  split at hx
  ·rename_i c hc
   split at hx
   ·cases hx
   ·rename_i hcond
    simp only [Bool.or_eq_true,beq_iff_eq,decide_eq_true_eq,not_or,Nat.not_lt] at hcond
    obtain ⟨hname,hlen⟩:=hcond
    refine .inl ⟨by simp only [Zhz,hfn,hc,Option.isSome_some,Bool.and_true,bne_iff_ne];exact hname,fun g w vs hh hr=>?_⟩
    obtain ⟨x,e,h2,hxe,hnx,hres⟩: ∃x e h2,exec P tab n false fn.ntmps c (enter 0 args .nil) h=some (x,e,h2)/\(x= .normal∨x= .ret)/\(match resV P e h2 fn.results.toList with|some vs=>some (retV vs,h2)|none=>none)=some (v,h'):=by
     split at hx
     ·cases hx
     ·rename_i x e h2 hnx he
      refine ⟨x,e,h2,he,?_,hx⟩
      cases x with
      | normal=>exact .inl rfl
      | ret=>exact .inr rfl
      | exit i=>exact absurd rfl (hnx i)
     ·cases hx
    split at hres
    ·rename_i rs hrs
     simp only [Option.some.injEq,Prod.mk.injEq] at hres
     obtain ⟨rfl,rfl⟩:=hres
     have hl:=hr.len
     have hr':Rels (g.with []) args vs:=hr.mono (ZHC g [])
     refine ZJk.1 (callsIn_of_wp_marks (n:=0) hfn hc trivial (hE false fn.ntmps c _ _ x e _ hxe none w.heap.size (g.with []) _ w (fun _=>rfl) (hh.with []) (EnvR.begin (n:=fn.ntmps) rfl hr') Ze Mk.nil (Nat.le_refl _) _ fun a' w' g' q1 q2 q3 q4 q5 q6=>?_))
     obtain ⟨bs,m1,m2,m3⟩:=q6
     have hpost:LeavesInM (FR none) 0 P fn a'.tmps (fun r w'=> ∃u g',r= .returned u/\Rel g' (retV rs) u/\HR g' h2 w'/\Le g g'/\Grew g w g' w') a'.defers .returning w':=by
      rw [q1.1,m1]
      refine ZJv (g:=g') (h:=h2) (g0:=g.with []) (w0:=w) bs w' m2 m3 q3 q5 fun w3 hh3 hg3=>?_
      obtain ⟨us,u1,u2,u3⟩:=ZMc (P:=P) hh3 q1 hrs
      refine ⟨_,Zra (by simpa using u2) (fun j y u hj hu=>u3 j y u (by simpa using hj) hu),_,g'.with g.dfs,rfl,(ZPG u1).mono (ZHC _ _),hh3.with _,?_,hg3.with g.dfs g.dfs⟩
      exact (((ZH0 g []).trans q4).trans (ZH0 _ _)).le rfl
     rcases hnx with rfl|rfl<;>exact hpost
    ·cases hres
  ·cases hx
 ·rename_i p hp
  rw [hp] at hTf
  exact (hTf _ _ _ _ hx).1
 ·rename_i p hp
  rw [hp] at hTf
  simp only [Option.map_eq_some_iff,Prod.mk.injEq] at hx
  obtain ⟨u,hu,rfl,rfl⟩:=hx
  exact hTf _ _ _ hu
 ·cases hx
theorem ZLV {tab:Nat->Option Fn} (n:Nat) (hE:Zv5 P tab n) {l:Nat} {args:List V} {v:V} (hx:ZLz (exec P tab n) l args h=some (v,h')):ZNS P l args h v h':=by
 obtain ⟨e,nt,ps,as,bd,e1,h1,p2,e2,nt2,ps2,as2,bd2,x,e4,h2,st3,p3,e3,nt3,ps3,as3,bd3,hob,hlen,hps,hex,hob1,hex2,hob2,rfl,rfl⟩:=ZI1 hx
 intro g w vs hh hl hr
 have hO:=hh.ob _ _ hl hob
 unfold ObOK at hO
 obtain ⟨r,k1,k2,k3⟩:=hO
 have hrs:ps.length=r.params.size:=by rw [<-k2.ps];simp
 refine ⟨r,k1,by rw [<-hr.len,hlen,hrs],?_⟩
 have hfold:(r.params.zip vs.toArray).foldl (fun tmps (t,a)=>tmps.setIfInBounds t a) r.tmps=(ps.zip vs).foldl (fun (tmps:Array Value) (x:Nat×Value)=>tmps.setIfInBounds x.1 x.2) r.tmps:=by
  rw [<-k2.ps,<-Array.foldl_toList,Array.toList_zip]
 rw [hfold]
 have hr':Rels (g.with []) args vs:=hr.mono (ZHC g [])
 obtain ⟨b1,b2⟩:=ZML (ps:=ps) hr' k2.nt hps fun t v hv=>(k2.env t v hv).mono (ZHC g [])
 refine roundIn_of_wpIn (F:=Fence.wide) trivial ?_
 rw [k2.assign,k2.body]
 refine hE true nt as _ _ .normal e1 h1 hex (some (g.β l).1) w.heap.size (g.with []) {tmps:=_,defers:=[]} w (fun h=>by cases h) (hh.with []) ⟨rfl,b2⟩ b1 Mk.nil (Nat.le_refl _) _ fun a1 w1 g1 q1 q2 q3 q4 q5 q6=>?_
 have hl1:g1.ex l:=q4.ex _ hl
 have hβ1:g1.β l=g.β l:=q4.β _ hl
 have hO1:=q3.ob _ _ hl1 hob1
 unfold ObOK at hO1
 obtain ⟨r1,j1,j2,j3⟩:=hO1
 have j1':w1.heap[(g.β l).1]? =some (.loop r1):=by rw [<-hβ1];exact j1
 refine ⟨_,run_beginRound j1' j2.state,?_⟩
 have hput:=q3.putObj (o':= .loop .busy p2 e2 nt2 ps2 as2 bd2) (ob:= .loop {r1 with state:= .busy}) hl1 hob1 rfl rfl (by
  unfold ObOK
  exact ⟨_,Zyb q3 hl1 _,⟨rfl,j2.pend,j2.ps,j2.assign,j2.body,j2.nt,j2.env⟩,j3⟩)
 have hgp:=ZHA q3 hl1 (.loop {r1 with state:= .busy})
 rw [hβ1] at hput hgp
 refine hE true nt bd e1 _ x e4 h2 hex2 (some (g.β l).1) w.heap.size g1 a1 _ (fun h=>by cases h) hput q1 q2 (q6.mono hgp) (Nat.le_trans q5.size hgp.size) _ fun a3 w3 g3 p1 p2 p3 p4 p5 p6=>?_
 have hl3:g3.ex l:=p4.ex _ hl1
 have hβ3:g3.β l=g.β l:=(p4.β _ hl1).trans hβ1
 have hO3:=p3.ob _ _ hl3 hob2
 unfold ObOK at hO3
 obtain ⟨r3,i1,i2,i3⟩:=hO3
 have i1':w3.heap[(g.β l).1]? =some (.loop r3):=by rw [<-hβ3];exact i1
 have fin: ∀(jump:Option Code),jump.isNone=ZHM x->jump=(ZMA x).map X.code-> ∃v w',(Instr.endRound (g.β l).1 jump).run P w3= .ok v w'/\
   ∃u g',Ending.returned v= .returned u/\Rel g' (.bool (ZHM x)) u/\HR g' (h2.setObj l (.loop (if ZHM x then .ready else .done) (ZMA x) e3 nt3 ps3 as3 bd3)) w'/\Le g g'/\Grew g w g' w':=fun jump hj1 hj2=>by
  refine ⟨_,_,run_endRound jump i1',_,g3.with g.dfs,rfl,by simp only [Rel,hj1],?_,?_,?_⟩
  ·have hput3:=p3.putObj (o':= .loop (if ZHM x then .ready else .done) (ZMA x) e3 nt3 ps3 as3 bd3) (ob:= .loop {r3 with state:=if jump.isNone then .ready else .done,pending:=jump}) hl3 hob2 rfl rfl (by
    unfold ObOK
    exact ⟨_,Zyb p3 hl3 _,⟨by rw [hj1],hj2,i2.ps,i2.assign,i2.body,i2.nt,i2.env⟩,i3⟩)
   rw [hβ3] at hput3
   exact hput3.with _
  ·exact ((((ZH0 g []).trans q4).trans p4).trans (ZH0 _ _)).le rfl
  ·have hgp3:=ZHA p3 hl3 (.loop {r3 with state:=if jump.isNone then .ready else .done,pending:=jump})
   rw [hβ3] at hgp3
   exact (((q5.trans hgp).trans p5).trans hgp3).with g.dfs g.dfs
 cases x with
 | normal=>exact fin none rfl rfl
 | exit i=>exact fin (some (.exit i)) rfl rfl
 | ret=>exact fin (some .ret) rfl rfl
theorem Zk3 {tab:Nat->Option Fn} (hT:ZIJ P tab) (n:Nat) (hE:Zv5 P tab n):Zcv P (Zja P tab (exec P tab n)):=by
 intro f args h v h' hx
 unfold Zja at hx
 refine ⟨fun hlt=>?_,fun l hl=>?_⟩
 ·rw [hlt] at hx
  simp only [cond_true] at hx
  exact ZMM hT n hE hx
 ·have hlt:Nat.blt f YB=false:=by
   rw [Bool.eq_false_iff]
   intro hb
   rw [Nat.blt_eq] at hb
   omega
  rw [hlt] at hx
  simp only [cond_false] at hx
  have hs:Nat.sub f YB=l:=by rw [hl];exact Nat.add_sub_cancel_left ..
  rw [hs] at hx
  exact ZLV n hE hx
theorem ZlN {tab:Nat->Option Fn} (hT:ZIJ P tab) (n:Nat):Zcv P (call P tab n):=
 Zk3 hT n (Zs2 (ZIC hT) (fun k hk=>Zk3 hT k hk) n n (Nat.le_refl _))
end Go.Cm
end
section
namespace Go.Cm
variable {P:Program}
def ZO2 (w:World):G:=⟨fun _=>False,fun _=>(0,0),fun _=>0,w.heap.size,0,[],fun _=>0,w⟩
def ZM7:H:=⟨0,.nil,.nil,.nil⟩
theorem start (w:World):HR (ZO2 w) ZM7 w:=
 ⟨Nat.le_refl _,fun _ h=>h.elim,rfl,fun k m h=>by simp [ZM7,T.get] at h,fun _ _ _ _ _ h=>h.elim,fun _ h=>h.elim,fun _ _ h=>h.elim,fun k m h=>(by simp [ZM7,T.get] at h),fun _ _ _ h=>h.elim,fun _ _ _ _ _ _ _ _ _ _ h=>h.2.2.elim,fun _ _ _ _ _ _ _ _ h=>h.2.2.elim,fun _ _ _ _ _ _ _ h=>h.elim,fun _ _ _ h=>h.elim,⟨fun _ _ _ h=>absurd h (Nat.not_lt_zero _),fun _ h=>h.elim,fun _ _=>rfl⟩⟩
def gives (P:Program) (tab:Nat->Option Fn) (n f:Nat) (b:Bool):Bool:=Nat.blt f YB && (match call P tab n f [] ZM7 with
 | some (.bool c,_)=>c==b
 | _=>false)
theorem ZKN {tab:Nat->Option Fn} (hT:ZIJ P tab) {n f:Nat} {b:Bool} (hf:Am.Zhz P f=true) (hx:gives P tab n f b=true):Am.Zhz P f=true/\ ∀w:World,Calls P f #[] w fun r w'=>r= .returned (.bool b)/\RowKit.Below w.heap.size w w':=by
 unfold gives at hx
 rw [Bool.and_eq_true] at hx
 obtain ⟨hlt,hx⟩:=hx
 split at hx
 ·rename_i c h' hc
  have hb:c=b:=by simpa using hx
  subst hb
  obtain ⟨h1,h2⟩:Am.Zhz P f=true/\_:=((ZlN hT n f [] ZM7 _ _ hc).1 hlt).resolve_right fun hr=>by
   obtain ⟨u,r1,_⟩:=hr.2 (ZO2 default) default [] rfl
   rw [@Am.Zpc wi0 P f hf] at r1
   cases r1
  refine ⟨h1,fun w=>((h2 (ZO2 w) w [] (start w) rfl).mono ?_)⟩
  rintro r w' ⟨u,g',rfl,hr,_,_,hg⟩
  exact ⟨by rw [ZHr hr],hg.os,hg.tape,hg.output,hg.size,fun k hk=>hg.old k hk fun b hb=>hb.elim⟩
 ·cases hx
theorem closed_prim [Am.WI] {tab:Nat->Option Fn} (hT:ZIJ P tab) {n f:Nat} {b:Bool} (hf:Am.Zhz P f=true) (hx:gives P tab n f b=true):
  Am.Zf2 P f fun args os=>if args.isEmpty && os.isEmpty then some ([.one (.p (.bool b))],[]) else none:=by
 obtain ⟨h1,h2⟩:=ZKN hT hf hx
 intro args os rs os' h
 simp only at h
 split at h
 ·rename_i hc
  simp only [Bool.and_eq_true,List.isEmpty_iff] at hc
  obtain ⟨rfl,rfl⟩:=hc
  simp only [Option.some.injEq,Prod.mk.injEq] at h
  obtain ⟨rfl,rfl⟩:=h
  refine ⟨h1,fun g w vs hp _ _ _ _ hf hwi hT'=>?_⟩
  have hvs:vs=[]:=by
   have:=hp.1
   simpa using this
  subst hvs
  refine (h2 w).mono ?_
  rintro r w' ⟨rfl,hg⟩
  refine ⟨.bool b,g,rfl,?_,rfl,rfl,fun k hk=>hf k (Nat.le_trans hg.size hk),?_,fun i cs hi=>by simp at hi⟩
  ·exact ⟨hg.os,hg.tape,hg.output,hg.size,fun k o hk=>⟨o,by rw [hg.block k (Am.ZaB hk)];exact hk,.refl _ _⟩,fun k hk=>Nat.le_refl _,fun k hk ho _=>⟨rfl,ho⟩,fun k hk _ _=>hg.block k hk⟩
  ·exact Am.RepP.bool b
 ·cases h
end Go.Cm
end
section
namespace Go.Cm
attribute [local instance] wi0
variable {P:Program}
def eqNs:List Nat->List Nat->Bool
 | [],[]=>true
 | a::l,b::r=>Nat.beq a b && eqNs l r
 | _,_=>false
theorem ZMp: ∀{a b:List Nat},eqNs a b=true->a=b
 | [],[],_=>rfl
 | x::a,y::b,h=>by
   simp only [eqNs,Bool.and_eq_true] at h
   rw [Nat.eq_of_beq_eq_true h.1,ZMp h.2]
 | [],_::_,h=>by cases h
 | _::_,[],h=>by cases h
def eqON:Option Nat->Option Nat->Bool
 | none,none=>true
 | some a,some b=>Nat.beq a b
 | _,_=>false
theorem ZPR: ∀{a b:Option Nat},eqON a b=true->a=b
 | none,none,_=>rfl
 | some a,some b,e=>by rw [Nat.eq_of_beq_eq_true e]
 | none,some _,e=>by cases e
 | some _,none,e=>by cases e
def eqEs:List En->List En->Bool
 | [],[]=>true
 | a::l,b::r=>eqV a.k b.k && eqV a.x b.x && Nat.beq a.born b.born && eqEs l r
 | _,_=>false
theorem ZNV: ∀{a b:List En},eqEs a b=true->a=b
 | [],[],_=>rfl
 | ⟨k,x,n⟩::a,⟨k',x',n'⟩::b,h=>by
   simp only [eqEs,Bool.and_eq_true] at h
   rw [eqV_eq h.1.1.1,eqV_eq h.1.1.2,Nat.eq_of_beq_eq_true h.1.2,ZNV h.2]
 | [],_::_,h=>by cases h
 | _::_,[],h=>by cases h
def eqBB (a b:Bool):Bool:=cond a b (!b)
theorem ZPA {a b:Bool} (h:eqBB a b=true):a=b:=by cases a<;>cases b<;>first|rfl|cases h
def eqO (a b:O):Bool:=match b with
 | .cells cs g v k=>(match a with
   | .cells cs' g' v' k'=>eqVs cs' cs && Nat.beq g' g && Nat.beq v' v && eqBB k' k
   | _=>false)
 | .map es c=>(match a with
   | .map es' c'=>eqEs es' es && Nat.beq c' c
   | _=>false)
 | .siter s p=>(match a with
   | .siter s' p'=>eqNs s' s && Nat.beq p' p
   | _=>false)
 | .miter m s l n=>(match a with
   | .miter m' s' l' n'=>eqON m' m && Nat.beq s' s && eqNs l' l && Nat.beq n' n
   | _=>false)
 | _=>false
theorem ZQE {a b:O} (h:eqO a b=true):a=b:=by
 unfold eqO at h
 split at h
 ·split at h
  ·simp only [Bool.and_eq_true] at h
   rw [eqVs_eq h.1.1.1,Nat.eq_of_beq_eq_true h.1.1.2,Nat.eq_of_beq_eq_true h.1.2,ZPA h.2]
  ·cases h
 ·split at h
  ·simp only [Bool.and_eq_true] at h
   rw [ZNV h.1,Nat.eq_of_beq_eq_true h.2]
  ·cases h
 ·split at h
  ·simp only [Bool.and_eq_true] at h
   rw [ZMp h.1,Nat.eq_of_beq_eq_true h.2]
  ·cases h
 ·split at h
  ·simp only [Bool.and_eq_true] at h
   rw [ZPR h.1.1.1,Nat.eq_of_beq_eq_true h.1.1.2,ZMp h.1.2,Nat.eq_of_beq_eq_true h.2]
  ·cases h
 ·cases h
def ofL {α:Type}:List (Nat×α)->T α
 | []=> .nil
 | (k,x)::l=>(ofL l).set k x
theorem ZKv {α:Type}: ∀{l:List (Nat×α)} {k:Nat} {x:α},(ofL l).get k=some x->(k,x)∈l
 | [],k,x,h=>by cases h
 | (j,y)::l,k,x,h=>by
   unfold ofL at h
   rw [T.get_set] at h
   split at h
   · rename_i e
     cases h
     subst e
     exact List.mem_cons_self
   · exact List.mem_cons_of_mem _ (ZKv h)
structure Less (a h:H):Prop where
 next:a.next=h.next
 obs: ∀b o,a.obs.get b=some o->h.obs.get b=some o
 low: ∀b cs gr ver kid,a.obs.get b=some (.cells cs gr ver kid)->a.low gr=h.low gr
 mins: ∀k m,a.mins.get k=some m->h.mins.get k=some m
 tys: ∀b x,a.tys.get b=some x->h.tys.get b=some x
theorem ZQx {g:G} {low low':Nat->Nat} {w:World} {b:Nat} {o:O} (hl: ∀cs gr ver kid,o= .cells cs gr ver kid->low' gr=low gr) (h:ObOK g low w b o):ObOK g low' w b o:=by
 cases o with
 | cells cs gr ver kid=>
   have:=hl cs gr ver kid rfl
   unfold ObOK at h⊢
   simp only at h⊢
   rw [this]
   exact h
 | _=>exact h
theorem HR.less {g:G} {a h:H} {w:World} (hl:Less a h) (hh:HR g h w):HR g a w:=
 have al: ∀b gr ver kid cs,ZHG g a b gr ver kid cs->ZHG g h b gr ver kid cs:=fun b gr ver kid cs ⟨h1,h2,h3⟩=>⟨hl.obs _ _ h1,by rw [<-hl.low _ _ _ _ _ h1];exact h2,h3⟩
 ⟨hh.bs,fun b hb=>by rw [hl.next];exact hh.nx b hb,by rw [hl.next];exact hh.top,fun k m hk=>hh.mins k m (hl.mins k m hk),fun b cs gr ver kid hb ho=>hh.grp b cs gr ver kid hb (hl.obs _ _ ho),hh.blk,
  fun b o hb ho=>ZQx (fun cs gr ver kid he=>by subst he;exact hl.low _ _ _ _ _ ho) (hh.ob b o hb (hl.obs _ _ ho)),fun b x hx=>by rw [hl.next];exact hh.tl b x (hl.tys _ _ hx),fun b t n hb hx=>hh.ty b t n hb (hl.tys _ _ hx),
  fun b b' gr ver kid cs gr' ver' kid' cs' h1 h2=>hh.i1 b b' gr ver kid cs gr' ver' kid' cs' (al _ _ _ _ _ h1) (al _ _ _ _ _ h2),
  fun b b' gr ver cs ver' kid' cs' h1 h2=>hh.i2 b b' gr ver cs ver' kid' cs' (al _ _ _ _ _ h1) (al _ _ _ _ _ h2),
  fun b b' gr ver cs ver' cs' h1 h2 h3 h4=>hh.i4 b b' gr ver cs ver' cs' h1 h2 (hl.obs _ _ h3) (hl.obs _ _ h4),fun b o b' hb ho hc=>hh.dm b o b' hb (hl.obs _ _ ho) hc,hh.dt⟩
structure Hl where
 next:Nat
 obs:List (Nat×O)
 mins:List (Nat×Nat)
 tys:List (Nat×Nat×Nat)
def Hl.h (x:Hl):H:=⟨x.next,ofL x.obs,ofL x.mins,ofL x.tys⟩
def ZR8 (x:H) (h:H):O->Bool
 | .cells _ gr _ _=>Nat.beq (x.low gr) (h.low gr)
 | _=>true
def inO (x h:H) (p:Nat×O):Bool:=match h.obs.get p.1 with
 | some o=>eqO o p.2 && ZR8 x h p.2
 | none=>false
def inM (h:H) (p:Nat×Nat):Bool:=match h.mins.get p.1 with
 | some m=>Nat.beq m p.2
 | none=>false
def inT (h:H) (p:Nat×Nat×Nat):Bool:=match h.tys.get p.1 with
 | some m=>Nat.beq m.1 p.2.1 && Nat.beq m.2 p.2.2
 | none=>false
def Hl.sub (x:Hl) (h:H):Bool:=Nat.beq x.next h.next && (x.obs.all (inO x.h h) && (x.mins.all (inM h) && x.tys.all (inT h)))
theorem Hl.less {x:Hl} {h:H} (hx:x.sub h=true):Less x.h h:=by
 simp only [Hl.sub,Bool.and_eq_true,List.all_eq_true] at hx
 obtain ⟨h1,h2,h3,h4⟩:=hx
 refine ⟨Nat.eq_of_beq_eq_true h1,fun b o ho=>?_,fun b cs gr ver kid ho=>?_,fun k m hm=>?_,fun b y hy=>?_⟩
 ·have:=h2 _ (ZKv ho)
  unfold inO at this
  split at this
  ·rename_i o' ho'
   rw [Bool.and_eq_true] at this
   exact ho'.trans (congrArg some (ZQE this.1))
  ·cases this
 ·have:=h2 _ (ZKv ho)
  unfold inO at this
  split at this
  ·rw [Bool.and_eq_true] at this
   exact Nat.eq_of_beq_eq_true this.2
  ·cases this
 ·have:=h3 _ (ZKv hm)
  unfold inM at this
  split at this
  ·rename_i m' hm'
   exact hm'.trans (congrArg some (Nat.eq_of_beq_eq_true this))
  ·cases this
 ·have:=h4 _ (ZKv hy)
  unfold inT at this
  split at this
  ·rename_i m' hm'
   rw [Bool.and_eq_true] at this
   have e:m'=y:=Prod.ext (Nat.eq_of_beq_eq_true this.1) (Nat.eq_of_beq_eq_true this.2)
   exact hm'.trans (congrArg some e)
  ·cases this
structure Ran where
 args:List V
 h:Hl
 v:V
 h':Hl
def memo (x:Ran) (args:List V) (h:H):Option (V×H):=if Nat.beq x.h.next h.next && (eqVs args x.args && x.h.sub h) then some (x.v,x.h'.h) else none
def ran (P:Program) (tab:Nat->Option Fn) (n f:Nat) (x:Ran):Bool:=match call P tab n f x.args x.h.h with
 | some (v,h')=>eqV v x.v && x.h'.sub h'
 | none=>false
theorem ZHD {tab:Nat->Option Fn} (hT:ZIJ P tab) {n f:Nat} {x:Ran} (hf:Nat.blt f YB=true) (he:Am.Zhz P f=true) (hc:ran P tab n f x=true) (args:List V) (h:H) (v:V) (h':H) (hx:memo x args h=some (v,h')):ZHF P f args h v h'/\h.next<=h'.next:=by
 unfold memo at hx
 split at hx
 ·rename_i hq
  rw [Bool.and_eq_true,Bool.and_eq_true] at hq
  replace hq:=hq.2
  simp only [Option.some.injEq,Prod.mk.injEq] at hx
  obtain ⟨rfl,rfl⟩:=hx
  have hl:=Hl.less hq.2
  unfold ran at hc
  split at hc
  ·rename_i v1 h1 hcall
   rw [Bool.and_eq_true] at hc
   have hl':=Hl.less hc.2
   have hn:=ZIC hT n _ _ _ _ _ hcall
   rw [eqVs_eq hq.1,<-eqV_eq hc.1]
   refine ⟨.inl ⟨he,fun g w vs hh hr=>?_⟩,by rw [<-hl.next,hl'.next];exact hn⟩
   rcases (ZlN hT n f _ _ _ _ hcall).1 hf with ⟨q1,q2⟩|⟨_,q2⟩
   ·refine (q2 g w vs (hh.less hl) hr).mono ?_
    rintro r w' ⟨u,g',rfl,z1,z2,z3,z4⟩
    exact ⟨u,g',rfl,z1,z2.less hl',z3,z4⟩
   ·obtain ⟨u,r1,_⟩:=q2 g w vs hr
    rw [@Am.Zpc wi0 P f he] at r1
    cases r1
  ·cases hc
 ·cases hx
def ZNU:List Ran->List V->H->Option (V×H)
 | [],_,_=>none
 | x::l,args,h=>match memo x args h with
   | some r=>some r
   | none=>ZNU l args h
theorem ZIS {f:Nat} {l:List Ran} (hl: ∀x∈l,∀(args:List V) (h:H) (v:V) (h':H),memo x args h=some (v,h')->ZHF P f args h v h'/\h.next<=h'.next) (args:List V) (h:H) (v:V) (h':H) (hx:ZNU l args h=some (v,h')):ZHF P f args h v h'/\h.next<=h'.next:=by
 induction l with
 | nil=>cases hx
 | cons x l ih=>
   unfold ZNU at hx
   split at hx
   · rename_i r hr
     simp only [Option.some.injEq] at hx
     subst hx
     exact hl x List.mem_cons_self args h v h' hr
   · exact ih (fun y hy=>hl y (List.mem_cons_of_mem _ hy)) hx
def ZMB (P:Program) (tab:Nat->Option Fn) (n f:Nat) (p:List V->H->Option (V×H)) (args:List V) (h:H):Option (V×H):=match p args h with
 | some r=>some r
 | none=>call P tab n f args h
theorem ZJ4 {tab:Nat->Option Fn} (hT:ZIJ P tab) {n f:Nat} (hf:Nat.blt f YB=true) {p:List V->H->Option (V×H)} (hp: ∀args h v h',p args h=some (v,h')->ZHF P f args h v h'/\h.next<=h'.next) (args:List V) (h:H) (v:V) (h':H) (hx:ZMB P tab n f p args h=some (v,h')):ZHF P f args h v h'/\h.next<=h'.next:=by
 unfold ZMB at hx
 split at hx
 ·rename_i r hr
  simp only [Option.some.injEq] at hx
  subst hx
  exact hp args h v h' hr
 ·exact ⟨(ZlN hT n f _ _ _ _ hx).1 hf,ZIC hT n _ _ _ _ _ hx⟩
def tabT (f:Nat) (p:List V->H->Option (V×H)) (tab:Nat->Option Fn) (k:Nat):Option Fn:=match Nat.beq f k with
 | true=>some (.prim p)
 | false=>tab k
theorem ZIc {f:Nat} {p:List V->H->Option (V×H)} {tab:Nat->Option Fn} (hp: ∀args h v h',p args h=some (v,h')->ZHF P f args h v h'/\h.next<=h'.next) (ht:ZIJ P tab):ZIJ P (tabT f p tab):=fun k=>by
 unfold tabT
 cases hb:Nat.beq f k with
 | true=>
   have:=Nat.eq_of_beq_eq_true hb
   subst this
   exact hp
 | false=>exact ht k
end Go.Cm
end
section
namespace Go.Cm
open Go.Am (Zhz ZjZ)
attribute [local instance] wi0
variable {P:Program} {F:ZaQ} {g:G} {e e':Env} {a:Act} {w:World} {h h':H} {o:Oper}
abbrev Pan:=Nat×V
abbrev ZHI:=Nat->List V->H->Option (Pan×H)
def ZRB (g:G) (w:World) (p:Pan) (h':H) (r:Ending) (w':World):Prop:= ∃u g',r= .panicked [{v:= .iface p.1 u,recovered:=false}]/\Rel g' p.2 u/\HR g' h' w'/\Le g g'/\Grew g w g' w'
def ZR5 (P:Program) (f:Nat) (args:List V) (h:H) (p:Pan) (h':H):Prop:=Zhz P f=true/\ ∀(g:G) (w:World) (vs:List Value),HR g h w->Rels g args vs->Calls P f vs.toArray w (ZRB g w p h')
def ZIa (P:Program) (PF:ZHI):Prop:= ∀(f:Nat) (args:List V) (h:H) (p:Pan) (h':H),PF f args h=some (p,h')->ZR5 P f args h p h'
section
variable (P:Program)
def popV (PF:ZHI) (e:Env) (h:H):Op->Option (Pan×H)
 | .call c=>match c.callee,evs e c.args.toList with
   | .value f,some args=>match ev e f with
     | some (.fn f first caps)=>PF f (first++args++caps) h
     | _=>none
   | _,_=>none
 | _=>none
def ZRk (F:ZaQ) (PF:ZHI) (nt:Nat) (ops:Array Oper) (j:Nat) (e:Env) (h:H):Option (Pan×H):=match runV P F nt ops (ops.toList.take j) e h with
 | some (e1,h1)=>match ops[j]? with
   | some o=>match goes ops o e1 with
     | some true=>popV PF e1 h1 o.op
     | _=>none
   | none=>none
 | none=>none
inductive PR where
 | go (x:X) (e:Env) (h:H) (k:Nat)
 | pan (p:Pan) (h:H)
def ZI3 (F:ZaQ) (PF:ZHI) (j:Nat):Nat->Nat->Nat->Code->Env->H->Option PR
 | 0,_,_,_,_,_=>none
 | n+1,k,nt,c,e,h=>match c with
   | .skip=>some (.go .normal e h k)
   | .label _=>some (.go .normal e h k)
   | .region _ ops draw=>match k with
     | 0=>if draw=true then none else (ZRk P F PF nt ops j e h).map fun r=> .pan r.1 r.2
     | k+1=>match (if draw=true then ZPc ops P F nt e h else runV P F nt ops ops.toList e h) with
       | some (e',h')=>some (.go .normal e' h' k)
       | none=>none
   | .seq a b=>match ZI3 F PF j n k nt a e h with
     | some (.go .normal e' h' k')=>ZI3 F PF j n k' nt b e' h'
     | x=>x
   | .cond x a b=>match ev e x with
     | some (.bool t)=>ZI3 F PF j n k nt (if t then a else b) e h
     | _=>none
   | .block id b=>match ZI3 F PF j n k nt b e h with
     | some (.go (.exit i) e' h' k')=>if i==id then some (.go .normal e' h' k') else some (.go (.exit i) e' h' k')
     | x=>x
   | .loop b=>match ZI3 F PF j n k nt b e h with
     | some (.go .normal e' h' k')=>ZI3 F PF j n k' nt (.loop b) e' h'
     | x=>x
   | .exit id=>some (.go (.exit id) e h k)
   | .ret=>some (.go .ret e h k)
   | .scope b=>ZI3 F PF j n k nt b e h
   | _=>none
def ZQe (tab:Nat→Option Fn) (n:Nat) (base:ZHI):List (Nat×Nat)→ZHI
  | [],f,args,h=>base f args h
  | (k,j)::hs,f,args,h=>match tab f with
    | some (.code fn)=>(match fn.body with
      | some c => if fn.name == "runtime.NumGoroutine" || decide (fn.ntmps < args.length) then none else match ZI3 P (call P tab n) (ZQe tab n base hs) j n k fn.ntmps c (enter 0 args .nil) h with
        | some (.pan p h')=>some (p,h')
        | _=>none
      | none=>none)
    | _=>none
end
def PDone (nt:Nat) (g:G) (w:World) (Q:Exit->Act->World->Prop):PR->Prop
 | .go x e' h' _=>Done nt e' h' g w (Q x.toExit)
 | .pan p h'=> ∀(a':Act) (w':World) (u:Value) (g':G),a'.defers=g'.dfs->Rel g' p.2 u->HR g' h' w'->Le g g'->Grew g w g' w'->Q (.panic [{v:= .iface p.1 u,recovered:=false}]) a' w'
theorem PDone.next {nt:Nat} {Q:Exit->Act->World->Prop} {g':G} {w':World} {r:PR} (hd:PDone nt g w Q r) (hl:Le g g') (hg:Grew g w g' w'):PDone nt g' w' Q r:=by
 cases r with
 | go x e1 h1 k=>exact Done.next hd hl hg
 | pan p h1=>exact fun a2 w2 u g2 h0 h1 h2 h3 h4=>hd a2 w2 u g2 h0 h1 h2 (hl.trans h3) (hg.trans h4)
theorem ZOo (hF:Zcv P F) {nt:Nat} {ops:Array Oper} {Q:Exit->Act->World->Prop} {l:List Nat}: ∀(n k:Nat) {g:G} {e:Env} {a:Act} {w:World} {h:H},k+n<=ops.size->HR g h w->EnvR g e a->nt<=a.tmps.size->
   runV P F nt ops ((ops.toList.drop k).take n) e h=some (e',h')->(∀a' w' g',EnvR g' e' a'->nt<=a'.tmps.size->HR g' h' w'->Le g g'->Grew g w g' w'->wpOpsIn (FR none) 0 P ops Q l a' w')->wpOpsIn (FR none) 0 P ops Q (List.range' k n++l) a w:=by
 intro n
 induction n with
 | zero=>
   intro k g e a w h hk hh he hs hx hD
   simp only [List.take_zero,runV,Option.some.injEq,Prod.mk.injEq] at hx
   obtain ⟨rfl,rfl⟩:=hx
   exact hD a w g he hs hh (Le.refl g) (Grew.refl _ _)
 | succ n ih=>
   intro k g e a w h hk hh he hs hx hD
   have hkl:k<ops.size:=by omega
   rw [List.drop_eq_getElem_cons (by simpa using hkl),List.take_succ_cons] at hx
   rw [List.range'_succ,List.cons_append,wpOpsIn_cons]
   simp only [runV] at hx
   split at hx
   · rename_i e1 h1 hst
     refine ZyK hF hh he hs (i:=k) (by simp [hkl]) hst fun v w' g' r1 r2 r3 r4=>?_
     exact ih (k+1) Zo r2 r1 (by rw [Am.Zd6];exact hs) hx fun a2 w2 g2 q1 q2 q3 q4 q5=>hD a2 w2 g2 q1 q2 q3 (r3.trans q4) (r4.trans q5)
   · cases hx
theorem ZQA {PF:ZHI} (hP:ZIa P PF) (hh:HR g h w) (he:EnvR g e a) {p:Pan} {ops:Array Oper} {j:Nat} (hj:ops[j]? =some o) (hg:goes ops o e=some true) (hx:popV PF e h o.op=some (p,h')) {l:List Nat} {Q:Exit->Act->World->Prop}
  (hQ: ∀(w':World) (u:Value) (g':G),Rel g' p.2 u->HR g' h' w'->Le g g'->Grew g w g' w'->Q (.panic [{v:= .iface p.1 u,recovered:=false}]) a w'):wpOpsIn (FR none) 0 P ops Q (j::l) a w:=by
 rw [wpOpsIn_cons]
 unfold wpOpIn
 simp only [hj]
 rw [ZHS he hg,if_pos rfl]
 unfold popV at hx
 split at hx
 ·rename_i c hop
  split at hx
  ·rename_i f args hc hargs
   split at hx
   ·rename_i f' first caps hf
    have hfr:=ZG2 he hf
    simp only [Rel] at hfr
    obtain ⟨fs,cs,hv,h1,h2⟩:=hfr
    have heq:fs.toArray++c.args.map a.eval++cs.toArray=(fs++c.args.toList.map a.eval++cs).toArray:=by
     apply Array.toList_inj.1
     simp
    have hrs:=(h1.append (ZIQ he hargs)).append h2
    obtain ⟨q1,q2⟩:=hP _ _ _ _ _ hx
    refine ⟨fun _ _=>trivial,?_⟩
    show o.uponIn (FR none) 0 P a _ Q ((o.semAt none a.eval).run P w)
    rw [Oper.semAt_eq none a.eval o (fun c hd=>by rw [hop] at hd;cases hd),ZjZ hop hc hv q1,Oper.uponIn_enter,heq]
    refine ⟨fun hd=>(by cases hd),ZJk.2 ((q2 g w _ hh hrs).mono ?_)⟩
    rintro r w' ⟨u,g',rfl,r1,r2,r3,r4⟩
    exact hQ w' u g' r1 r2 r3 r4
   ·cases hx
  ·cases hx
 ·cases hx
def ZPJ (P:Program) (F:ZaQ) (PF:ZHI) (j n:Nat):Prop:=
 ∀(k nt:Nat) (c:Code) (e:Env) (h:H) (r:PR),ZI3 P F PF j n k nt c e h=some r-> ∀(g:G) (a:Act) (w:World),HR g h w->EnvR g e a->nt<=a.tmps.size-> ∀Q:Exit->Act->World->Prop,PDone nt g w Q r->c.wpIn (FR none) 0 P Q a w
theorem ZMa {PF:ZHI} (hF:Zcv P F) (hN:ZHn F) (hPF:ZIa P PF) (j:Nat): ∀n,∀k,k<=n->ZPJ P F PF j k:=by
 intro n
 induction n with
 | zero=>
   intro k hk k' nt c e h r hx
   have:k=0:=by omega
   subst this
   simp [ZI3] at hx
 | succ n ih=>
   intro k hk
   rcases Nat.lt_or_ge k (n+1) with hlt|hge
   · exact ih k Zo
   have:k=n+1:=by omega
   subst this
   have hP:=ih n (Nat.le_refl _)
   intro k nt c e h r hx g a w hh he hs Q hD
   cases c with
   | skip=>
     simp only [ZI3,Option.some.injEq] at hx
     subst hx
     exact wpIn_skip (hD a w g he hs hh (Le.refl g) (Grew.refl _ _))
   | label l=>
     simp only [ZI3,Option.some.injEq] at hx
     subst hx
     exact wpIn_label (hD a w g he hs hh (Le.refl g) (Grew.refl _ _))
   | region id ops draw=>
     simp only [ZI3] at hx
     split at hx
     · split at hx
       · cases hx
       · rename_i hdr
         have hdr:draw=false:=by simpa using hdr
         subst hdr
         simp only [Option.map_eq_some_iff] at hx
         obtain ⟨⟨p,h1⟩,hx,rfl⟩:=hx
         unfold ZRk at hx
         split at hx
         · rename_i e1 h2 hrun
           split at hx
           · rename_i o ho
             split at hx
             · rename_i hgo
               have hjl:j<ops.size:=(Array.getElem?_eq_some_iff.1 ho).1
               refine wpIn_region ?_
               have hr:List.range ops.size=List.range' 0 j++(j::List.range' (j+1) (ops.size-(j+1))):=by
                 rw [List.range_eq_range',<-List.range'_succ,show ops.size=j+(ops.size-(j+1)+1) by omega]
                 have:= @List.range'_append 0 j (ops.size-(j+1)+1) 1
                 simp only [Nat.one_mul,Nat.zero_add] at this
                 rw [<-this]
                 congr 2
                 omega
               rw [hr]
               refine ZOo hF j 0 Zo hh he hs (by simpa using hrun) fun a1 w1 g1 q1 q2 q3 q4 q5=>?_
               refine ZQA hPF q3 q1 ho hgo hx fun w2 u g2 r1 r2 r3 r4=>?_
               exact hD a1 w2 u g2 (by rw [r3.dfs];exact q1.1) r1 r2 (q4.trans r3) (q5.trans r4)
             · cases hx
           · cases hx
         · cases hx
     · split at hx
       · rename_i k e1 h1 hr
         simp only [Option.some.injEq] at hx
         subst hx
         split at hr
         · rename_i hdr
           subst hdr
           exact ZK6 hF hN hh he hs hr hD
         · rename_i hdr
           have hdr:draw=false:=by simpa using hdr
           subst hdr
           refine wpIn_region ?_
           rw [List.range_eq_range']
           exact ZpG hF ops.size 0 Zo hh he hs (by simpa using hr) hD
       · cases hx
   | seq c1 c2=>
     simp only [ZI3] at hx
     refine wpIn_seq ?_
     split at hx
     · rename_i e1 h1 k1 h2
       refine hP k nt c1 e h _ h2 g a w hh he hs _ fun a1 w1 g1 q1 q2 q3 q4 q5=>?_
       exact hP k1 nt c2 e1 h1 r hx g1 a1 w1 q3 q1 q2 Q (hD.next q4 q5)
     · rename_i r0 hr
       refine hP k nt c1 e h r hx g a w hh he hs _ ?_
       cases r with
       | pan p h1=>exact hD
       | go x e1 h1 k1=>cases x with
         | normal=>exact absurd hx (fun hh=>hr _ _ _ hh)
         | exit id=>exact hD
         | ret=>exact hD
   | cond x0 c1 c2=>
     simp only [ZI3] at hx
     split at hx
     · rename_i t ht
       refine wpIn_cond (ZHr (ZG2 he ht)) ?_
       cases t with
       | true=>exact hP k nt c1 e h r hx g a w hh he hs Q hD
       | false=>exact hP k nt c2 e h r hx g a w hh he hs Q hD
     · cases hx
   | block id c1=>
     simp only [ZI3] at hx
     refine wpIn_block ?_
     split at hx
     · rename_i i e1 h1 k1 hr
       refine hP k nt c1 e h _ hr g a w hh he hs _ fun a1 w1 g1 q1 q2 q3 q4 q5=>?_
       split at hx
       · rename_i hi
         simp only [Option.some.injEq] at hx
         subst hx
         have hi:i=id:=by simpa using hi
         simp only [X.toExit,Exit.inBlock,hi,if_true]
         exact hD a1 w1 g1 q1 q2 q3 q4 q5
       · rename_i hi
         simp only [Option.some.injEq] at hx
         subst hx
         have hi:i≠id:=by simpa using hi
         simp only [X.toExit,Exit.inBlock,hi,if_false]
         exact hD a1 w1 g1 q1 q2 q3 q4 q5
     · rename_i r0 hr
       refine hP k nt c1 e h r hx g a w hh he hs _ ?_
       cases r with
       | pan p h1=>exact hD
       | go x e1 h1 k1=>cases x with
         | normal=>exact hD
         | exit id=>exact absurd hx (fun hh=>hr _ _ _ _ hh)
         | ret=>exact hD
   | loop c1=>
     let I:Nat->Act->World->Prop:=fun m a w=>m<=n+1/\ ∃k1 g1 e1 h1,ZI3 P F PF j m k1 nt (.loop c1) e1 h1=some r/\HR g1 h1 w/\EnvR g1 e1 a/\nt<=a.tmps.size/\PDone nt g1 w Q r
     refine ZJp I (n:=n+1) (fun m a w hI=>?_) ⟨Nat.le_refl _,k,g,e,h,hx,hh,he,hs,hD⟩
     obtain ⟨hmn,k1,g1,e1,h1,hx1,hh1,he1,hs1,hD1⟩:=hI
     cases m with
     | zero=>simp [ZI3] at hx1
     | succ m=>
       simp only [ZI3] at hx1
       have hPm:=ih m Zo
       split at hx1
       · rename_i e2 h2 k2 hr
         refine hPm k1 nt c1 e1 h1 _ hr g1 a w hh1 he1 hs1 _ fun a2 w2 g2 q1 q2 q3 q4 q5=>?_
         exact ⟨m,by omega,by omega,k2,g2,e2,h2,hx1,q3,q1,q2,hD1.next q4 q5⟩
       · rename_i r0 hr
         refine hPm k1 nt c1 e1 h1 r hx1 g1 a w hh1 he1 hs1 _ ?_
         cases r with
         | pan p h1=>exact hD1
         | go x e1 h1 k1=>cases x with
           | normal=>exact absurd hx1 (fun hh=>hr _ _ _ hh)
           | exit id=>exact hD1
           | ret=>exact hD1
   | exit id=>
     simp only [ZI3,Option.some.injEq] at hx
     subst hx
     exact wpIn_exit (hD a w g he hs hh (Le.refl g) (Grew.refl _ _))
   | ret=>
     simp only [ZI3,Option.some.injEq] at hx
     subst hx
     exact wpIn_ret (hD a w g he hs hh (Le.refl g) (Grew.refl _ _))
   | scope b=>
     simp only [ZI3] at hx
     refine ZHo (hP k nt b e h r hx g a w hh he hs _ ?_)
     cases r with
     | pan p h1=>exact hD
     | go x e1 h1 k1=>cases x with
       | normal=>exact hD
       | exit id=>exact hD
       | ret=>exact hD
   | _=>simp [ZI3] at hx
theorem ZJu {tab:Nat->Option Fn} (hT:ZIJ P tab) (n:Nat) {base:ZHI} (hb:ZIa P base): ∀hs:List (Nat×Nat),ZIa P (ZQe P tab n base hs)
 | []=>hb
 | (k,j)::hs=>fun f args h p h' hx=>by
   have ih:=ZJu hT n hb hs
   have hTf:=hT f
   unfold ZQe at hx
   split at hx
   · rename_i fn hfn
     rw [hfn] at hTf
     have hfn:P.funcs[f]? =some fn:=hTf
     split at hx
     · rename_i c hc
       split at hx
       · cases hx
       · rename_i hcond
         simp only [Bool.or_eq_true,beq_iff_eq,decide_eq_true_eq,not_or,Nat.not_lt] at hcond
         obtain ⟨hname,hlen⟩:=hcond
         refine ⟨by simp only [Zhz,hfn,hc,Option.isSome_some,Bool.and_true,bne_iff_ne];exact hname,fun g w vs hh hr=>?_⟩
         split at hx
         · rename_i p1 h1 hxe
           simp only [Option.some.injEq,Prod.mk.injEq] at hx
           obtain ⟨rfl,rfl⟩:=hx
           have hl:=hr.len
           have hr':Rels (g.with []) args vs:=hr.mono (ZHC g [])
           refine ZJk.1 (callsIn_of_wp_marks (n:=0) hfn hc trivial (ZMa (ZlN hT n) (ZIC hT n) ih j n n (Nat.le_refl _) k fn.ntmps c _ h _ hxe (g.with []) _ w (hh.with []) (EnvR.begin (n:=fn.ntmps) rfl hr') Ze _ ?_))
           intro a' w' u g' q0 q1 q2 q3 q4
           have hd:a'.defers=[]:=by rw [q0,q3.dfs];rfl
           show LeavesInM (FR none) 0 P fn a'.tmps (ZRB g w _ _) a'.defers _ w'
           rw [hd]
           refine ⟨u,g'.with g.dfs,rfl,q1.mono (ZHC _ _),q2.with _,?_,q4.with g.dfs g.dfs⟩
           exact (((ZH0 g []).trans q3.toD).trans (ZH0 _ _)).le rfl
         · cases hx
     · cases hx
   · cases hx
end Go.Cm
end
