/- Part. -/
import Derived.Test.YtmofclmogldnjaaGreatDoorCbo
set_option maxRecDepth 999999
set_option maxHeartbeats 0
set_option linter.all false
section
namespace Go.Cm
open Go.Am (Zaw Zhz Zpc ZjZ ZuJ Zk0 Zra)
attribute [local instance] wi0
variable {P:Program} {R:Option Nat} {F:ZaQ} {g:G} {e e':Env} {a:Act} {w:World} {h h':H} {ov:Option V} {o:Oper}
def X.toExit:X->Exit
 | .normal=> .normal
 | .exit id=> .exit id
 | .ret=> .ret
structure LeD (g g':G):Prop extends Le0 g g' where
 top:g.top<=g'.top
 new: ∀b,g'.ex b->g.ex b∨g.top<=b
def Le.toD {g g':G} (h:Le g g'):LeD g g':=⟨h.toLe0,h.top,h.new⟩
def LeD.trans {g g' g'':G} (h:LeD g g') (h':LeD g' g''):LeD g g'':=
 ⟨h.toLe0.trans h'.toLe0,Yy h.top h'.top,fun b hb=>(h'.new b hb).elim (h.new b) fun hb=> .inr (Yy h.top hb)⟩
def LeD.le {g g':G} (h:LeD g g') (hd:g'.dfs=g.dfs):Le g g':=⟨h.toLe0,h.top,h.new,hd⟩
def LeD.refl (g:G):LeD g g:=(Le.refl g).toD
def G.with (g:G) (d:List Deferred):G:={g with dfs:=d}
def ZH0 (g:G) (d:List Deferred):Le0 g (g.with d):=⟨fun _ h=>h,fun _ _=>rfl,fun _ _=>rfl,rfl,ZIH g⟩
def ZIF (g:G) (d:List Deferred):LeD g (g.with d):=⟨ZH0 g d,Yc _,fun _ h=> .inl h⟩
def HR.with (hh:HR g h w) (d:List Deferred):HR (g.with d) h w:=
 ⟨hh.bs,hh.nx,hh.top,hh.mins,hh.grp,hh.blk,fun b o hx hb=>(hh.ob b o hx hb).mono (ZH0 g d) hx rfl,hh.tl,hh.ty,hh.i1,hh.i2,hh.i4,hh.dm,⟨hh.dt.kp,hh.dt.dj,hh.dt.fr⟩⟩
def Grew.with {g':G} {w':World} (hg:Grew g w g' w') (d d':List Deferred):Grew (g.with d) w (g'.with d') w':=⟨hg.os,hg.tape,hg.output,hg.size,hg.old,hg.img,hg.pr⟩
def mark (r:Nat):Deferred:={target:= .collected r,args:= #[]}
def Mk (b0:Nat) (ds:List Deferred) (g:G) (w:World):Prop:= ∃bs:List Nat,ds=bs.map mark/\bs.Nodup/\ ∀r∈bs,b0<=r/\w.heap[r]? =some (.deferred (some []))/\(∀b,g.ex b->(g.β b).1≠r)/\g.pr0 r=0
def Mk.nil {b0:Nat}:Mk b0 [] g w:=⟨[],rfl,List.nodup_nil,fun r h=>by cases h⟩
def Mk.mono {b0:Nat} {ds:List Deferred} {g':G} {w':World} (hm:Mk b0 ds g w) (hg:Grew g w g' w'):Mk b0 ds g' w':=by
 obtain ⟨bs,h1,h2,h3⟩:=hm;refine ⟨bs,h1,h2,fun r hr=>?_⟩;obtain ⟨q1,q2,q3,q4⟩:=h3 r hr;have hlt:r<w.heap.size:=(Array.getElem?_eq_some_iff.1 q2).1;refine ⟨q1,by rw [hg.old r hlt q3];exact q2,fun b hb he=>?_,(hg.pr r hlt).trans q4⟩;rcases hg.img b hb with ⟨b1,h1,h2⟩|h1
 ·exact q3 b1 h1 (h2.trans he)
 ·omega
def DoneD (b0 nt:Nat) (e':Env) (h':H) (g:G) (w:World) (Q:Act->World->Prop):Prop:=
 ∀a' w' g',EnvR g' e' a'->nt<=a'.tmps.size->HR g' h' w'->LeD g g'->Grew g w g' w'->Mk b0 g'.dfs g' w'->Q a' w'
def DoneD.next {b0 nt:Nat} {Q:Act->World->Prop} {g':G} {w':World} (hd:DoneD b0 nt e' h' g w Q) (hl:LeD g g') (hg:Grew g w g' w'):DoneD b0 nt e' h' g' w' Q:=
 fun a2 w2 g2 h1 h2 h3 h4 h5 h6=>hd a2 w2 g2 h1 h2 h3 (hl.trans h4) (hg.trans h5) h6
def DoneD.done {b0 nt:Nat} {Q:Act->World->Prop} (hd:DoneD b0 nt e' h' g w Q) (hm:Mk b0 g.dfs g w):Done nt e' h' g w Q:=
 fun a2 w2 g2 h1 h2 h3 h4 h5=>hd a2 w2 g2 h1 h2 h3 h4.toD h5 (by rw [h4.dfs];exact hm.mono h5)
def ZKG {F:Fence} {n0:Nat} {P:Program} {Q:Exit->Act->World->Prop} {c:Code} (I:Nat->Act->World->Prop)
   (round: ∀n a w,I n a w->c.wpIn F n0 P (Exit.then (fun a' w'=> ∃m,m<n/\I m a' w') Q) a w) {n:Nat} {a:Act} {w:World} (h₀:I n a w):(Code.loop c).wpIn F n0 P Q a w:=by
 intro b k cs hro hb hr;have key: ∀n a w,I n a w-> ∃e a' w',Q e a' w'/\ArrivesIn (Machine.fenced P F) P (lone (b.atR a (.code c:: .inLoop c::k)) cs w) b k cs e a' w':=by
   intro n
   induction n using Nat.strongRecOn with
   | _ n ih=>
     intro a w hI;obtain ⟨e,a₁,w₁,hq,harr⟩:=round n a w hI b (.inLoop c::k) cs hro hb hr;cases e with
     | normal=>
       obtain ⟨m,hm,hI₁⟩:=hq;obtain ⟨e₂,a₂,w₂,hq₂,harr₂⟩:=ih m hm a₁ w₁ hI₁;exact ⟨e₂,a₂,w₂,hq₂,.of_steps (StepsIn.trans harr (.one (fenced_calm hb hr rfl) stepR_inLoop)) harr₂⟩
     | exit id=>exact ⟨_,a₁,w₁,hq,.pass (x:= .inLoop c) rfl (fun _ _=> .inl Zs) harr⟩
     | goto l=>exact ⟨_,a₁,w₁,hq,.pass (x:= .inLoop c) rfl (fun _ _=> .inl Zs) harr⟩
     | ret=>exact ⟨_,a₁,w₁,hq,.pass (x:= .inLoop c) rfl (fun _ _=> .inl Zs) harr⟩
     | panic ch=>exact ⟨_,a₁,w₁,hq,.pass (x:= .inLoop c) rfl (fun _ _=> .inl Zs) harr⟩
     | outgrown=>exact ⟨_,a₁,w₁,hq,.pass (x:= .inLoop c) rfl (fun _ _=> .inl Zs) harr⟩
 obtain ⟨e,a',w',hq,harr⟩:=key _ a w h₀;exact ⟨e,a',w',hq,.of_steps (.one (fenced_calm hb hr rfl) stepR_loop) harr⟩
section
variable {b:Frame} {k:List Item} {cs:List Frame}
def ZKx {c:Code}:step P (lone (b.atR a (.code (.scope c)::k)) cs w)= .next (lone (b.atR a (.code c:: .inScope c::k)) cs w):=
 step_lone_go (by simp [stepG,stepG.exec,Frame.atR])
def ZJO {c:Code}:step P (lone (b.atR a (.inScope c::k)) cs w)= .next (lone (b.atR a k) cs w):=
 step_lone_go (by simp [stepG,stepG.exec,Frame.atR])
end
def ZIf {F:Fence} {n:Nat} {Q:Exit->Act->World->Prop} {c:Code} (h:c.wpIn F n P (Exit.noGoto Q) a w):(Code.scope c).wpIn F n P Q a w:=by
 intro b k cs hro hb hr;obtain ⟨e,a₁,w₁,hq,harr⟩:=h b (.inScope c::k) cs hro hb hr;have s1:StepsIn (Machine.fenced P F) P (lone (b.atR a (.code (.scope c)::k)) cs w) (lone (b.atR a (.code c:: .inScope c::k)) cs w):= .one (fenced_calm hb hr rfl) ZKx;cases e with
 | normal=>exact ⟨.normal,a₁,w₁,hq,StepsIn.trans s1 (StepsIn.trans harr (.one (fenced_calm hb hr rfl) ZJO))⟩
 | exit id=>exact ⟨_,a₁,w₁,hq,.of_steps s1 ⟨fun k' hk=>harr.1 k' (by simp [exitTo,hk]),fun hr hk=>harr.2 hr (by simp [exitTo,hk])⟩⟩
 | goto l=>exact hq.elim
 | ret=>exact ⟨_,a₁,w₁,hq,.of_steps s1 harr⟩
 | panic ch=>exact ⟨_,a₁,w₁,hq,.of_steps s1 harr⟩
 | outgrown=>exact ⟨_,a₁,w₁,hq,.of_steps s1 harr⟩
def Zv5 (P:Program) (tab:Nat->Option Fn) (n:Nat):Prop:=
 ∀(r:Bool) (nt:Nat) (c:Code) (e:Env) (h:H) (x:X) (e':Env) (h':H),exec P tab n r nt c e h=some (x,e',h')-> ∀(R:Option Nat) (b0:Nat) (g:G) (a:Act) (w:World),(r=false->R=none)->HR g h w->EnvR g e a->
  nt<=a.tmps.size->Mk b0 g.dfs g w->b0<=w.heap.size-> ∀Q:Exit->Act->World->Prop,DoneD b0 nt e' h' g w (Q x.toExit)->c.wpIn (FR R) 0 P Q a w
def ZKb {tab:Nat->Option Fn} (hF:ZHz F) {nt:Nat} {ops:Array Oper}: ∀(l:List Oper) {e:Env} {h:H} {x:Env×H},runV P F nt ops l e h=some x->h.next<=x.2.next
 | [],e,h,x,hx=>by
   simp only [runV,Ye] at hx;subst hx;exact Yc _
 | o::l,e,h,x,hx=>by
   simp only [runV] at hx;split at hx
   · rename_i e1 h1 hst;obtain ⟨b,ov,_,h2,h3,_⟩:=ZHM hst;refine Yy ?_ (ZKb (tab:=tab) hF l hx);cases b with
     | true=>exact ZJU hF (h2 rfl)
     | false=>have h4:=(h3 rfl).2;simp only at h4;rw [h4];exact Yc _
   · cases hx
def ZKg (P:Program) (tab:Nat->Option Fn):Prop:= ∀f,match tab f with
 | some (.code fn)=>P.funcs[f]? =some fn
 | some (.prim p)=> ∀args h v h',p args h=some (v,h')->ZIT P f args h v h'/\h.next<=h'.next
 | some (.ext p)=> ∀args h v,p args=some v->ZIT P f args h v h
 | none=>True
def ZKJ {tab:Nat->Option Fn} (hT:ZKg P tab) {ex:Ex} (he: ∀r nt c e h x e' h',ex r nt c e h=some (x,e',h')->h.next<=h'.next):ZHz (ZK8 P tab ex):=by
 intro f args h v h' hx;have hTf:=hT f;unfold ZK8 at hx;split at hx
 ·split at hx
  ·split at hx
   ·cases hx
   ·split at hx
    ·cases hx
    ·rename_i x e h2 hnx hex;split at hx
     ·simp only [Ye,YM] at hx;obtain ⟨_,rfl⟩:=hx;exact he _ _ _ _ _ _ _ _ hex
     ·cases hx
    ·cases hx
  ·cases hx
 ·rename_i p hp;rw [hp] at hTf;exact (hTf _ _ _ _ hx).2
 ·simp only [YG,YM] at hx;obtain ⟨_,_,_,rfl⟩:=hx;exact Yc _
 ·cases hx
def ZIN {ex:Ex} {l:Nat} {args:List V} {v:V} (hx:ZKo ex l args h=some (v,h')): ∃e nt ps as bd e1 h1 p2 e2 nt2 ps2 as2 bd2 x e4 h2 st3 p3 e3 nt3 ps3 as3 bd3,
  h.obs.get l=some (.loop .ready none e nt ps as bd)/\args.length=ps.length/\(∀t∈ps,t<nt)/\ex true nt as (ZJV ps args e) h=some (.normal,e1,h1)/\h1.obs.get l=some (.loop .ready p2 e2 nt2 ps2 as2 bd2)/\
  ex true nt bd e1 (h1.setObj l (.loop .busy p2 e2 nt2 ps2 as2 bd2))=some (x,e4,h2)/\h2.obs.get l=some (.loop st3 p3 e3 nt3 ps3 as3 bd3)/\v= .bool (ZHJ x)/\
  h'=h2.setObj l (.loop (if ZHJ x then .ready else .done) (ZLo x) e3 nt3 ps3 as3 bd3):=by
 unfold ZKo at hx;split at hx
 ·rename_i e nt ps as bd hob;split at hx
  ·rename_i hc;simp only [Yb,beq_iff_eq,YK,jA] at hc;split at hx
   ·rename_i e1 h1 hex;split at hx
    ·rename_i p2 e2 nt2 ps2 as2 bd2 hob1;split at hx
     ·rename_i x e4 h2 hex2;split at hx
      ·rename_i st3 p3 e3 nt3 ps3 as3 bd3 hob2;simp only [Ye,YM] at hx;exact ⟨_,_,_,_,_,_,_,_,_,_,_,_,_,_,_,_,_,_,_,_,_,_,_,hob,hc.1,hc.2,hex,hob1,hex2,hob2,hx.1.symm,hx.2.symm⟩
      ·cases hx
     ·cases hx
    ·cases hx
   ·cases hx
  ·cases hx
 ·cases hx
def ZHP {tab:Nat->Option Fn} (hT:ZKg P tab) {ex:Ex} (he: ∀r nt c e h x e' h',ex r nt c e h=some (x,e',h')->h.next<=h'.next):ZHz (Zja P tab ex):=by
 intro f args h v h' hx;unfold Zja at hx;cases hlt:Nat.blt f YB with
 | true=>
   rw [hlt] at hx;simp only [cond_true] at hx;exact ZKJ hT he _ _ _ _ _ hx
 | false=>
   rw [hlt] at hx;simp only [cond_false] at hx;obtain ⟨l,hl⟩: ∃l,l=Nat.sub f YB:=⟨_,rfl⟩
   rw [<-hl] at hx;obtain ⟨e,nt,ps,as,bd,e1,h1,p2,e2,nt2,ps2,as2,bd2,x,e4,h2,st3,p3,e3,nt3,ps3,as3,bd3,_,_,_,q1,_,q2,_,_,rfl⟩:=ZIN hx;have z1:=he _ _ _ _ _ _ _ _ q1;have z2:=he _ _ _ _ _ _ _ _ q2;exact Yy z1 z2
def ZIW {nt:Nat} {ps:List Nat} {as bd:Code} {f:V} {x:X} (hx:ZL1 P F nt ps as bd f e h=some (x,e',h')): ∃f' first caps z h1 st pend e2 nt2 ps2 as2 bd2,
  f= .fn f' first caps/\(Nat.blt f' YB=true/\ZMq P f'=true)/\F f' (first++[.yld h.next]++caps) (h.new (.loop .ready none e nt ps as bd))=some (z,h1)/\h1.obs.get h.next=some (.loop st pend e2 nt2 ps2 as2 bd2)/\st≠ .busy/\
  ZNh pend=some x/\e=e'/\h'=h1.setObj h.next (.loop .exhausted pend e2 nt2 ps2 as2 bd2):=by
 unfold ZL1 at hx;split at hx
 ·rename_i f' first caps
  split at hx
  ·rename_i hlt;rw [Yb] at hlt;split at hx
   ·rename_i z h1 hcall;split at hx
    ·rename_i st pend e2 nt2 ps2 as2 bd2 hob;split at hx
     ·cases hx
     ·rename_i hst;simp only [YG,YM] at hx;obtain ⟨x',hj,rfl,rfl,rfl⟩:=hx;exact ⟨_,_,_,_,_,_,_,_,_,_,_,_,rfl,hlt,hcall,hob,fun hb=>hst (by rw [hb];rfl),hj,rfl,rfl⟩
    ·cases hx
   ·cases hx
  ·cases hx
 ·cases hx
def ZJ9 {tab:Nat->Option Fn} (hT:ZKg P tab): ∀(n:Nat) (r:Bool) (nt:Nat) (c:Code) (e:Env) (h:H) (x:X) (e':Env) (h':H),exec P tab n r nt c e h=some (x,e',h')->h.next<=h'.next
 | 0,_,_,_,_,_,_,_,_,hx=>by simp [exec] at hx
 | n+1,r,nt,c,e,h,x,e',h',hx=>by
   have ih:=ZJ9 hT n;cases c with
   | skip=>simp only [exec,Ye,YM] at hx;obtain ⟨_,_,rfl⟩:=hx;exact Yc _
   | label l=>simp only [exec,Ye,YM] at hx;obtain ⟨_,_,rfl⟩:=hx;exact Yc _
   | exit id=>simp only [exec,Ye,YM] at hx;obtain ⟨_,_,rfl⟩:=hx;exact Yc _
   | ret=>simp only [exec,Ye,YM] at hx;obtain ⟨_,_,rfl⟩:=hx;exact Yc _
   | scope b=>simp only [exec] at hx;exact ih _ _ _ _ _ _ _ _ hx
   | region id ops draw=>
     simp only [exec] at hx;split at hx
     · rename_i e1 h1 hr;simp only [Ye,YM] at hx;obtain ⟨_,_,rfl⟩:=hx;split at hr
       · exact ZK2 (ZHP hT ih) hr
       · exact ZKb (tab:=tab) (ZHP hT ih) _ hr
     · cases hx
   | seq c1 c2=>
     simp only [exec] at hx;split at hx
     · rename_i e1 h1 h2;exact Yy (ih _ _ _ _ _ _ _ _ h2) (ih _ _ _ _ _ _ _ _ hx)
     · exact ih _ _ _ _ _ _ _ _ hx
   | cond x0 c1 c2=>
     simp only [exec] at hx;split at hx
     · exact ih _ _ _ _ _ _ _ _ hx
     · cases hx
   | block id c1=>
     simp only [exec] at hx;split at hx
     · rename_i i e1 h1 hr;split at hx<;>
       · simp only [Ye,YM] at hx;obtain ⟨_,_,rfl⟩:=hx;exact ih _ _ _ _ _ _ _ _ hr
     · exact ih _ _ _ _ _ _ _ _ hx
   | loop c1=>
     simp only [exec] at hx;split at hx
     · rename_i e1 h1 hr;exact Yy (ih _ _ _ _ _ _ _ _ hr) (ih _ _ _ _ _ _ _ _ hx)
     · exact ih _ _ _ _ _ _ _ _ hx
   | rangeFunc f ps as bd=>
     simp only [exec] at hx;split at hx
     · cases hx
     · split at hx
       · obtain ⟨f',first,caps,z,h1,st,pend,e2,nt2,ps2,as2,bd2,_,_,q1,_,_,_,_,rfl⟩:=ZIW hx;have z1:=ZHP hT ih _ _ _ _ _ q1;exact Yy (Nat.le_succ _) z1
       · cases hx
   | _=>simp [exec] at hx
def ZLW {tab:Nat->Option Fn} (hT:ZKg P tab) (n:Nat):ZHz (Zja P tab (exec P tab n)):=ZHP hT (ZJ9 hT n)
def ZLl: ∀{ps:List Nat} {vs:List V} {us:List Value} {e:Env} {ts:Array Value} {nt:Nat},Rels g vs us->nt<=ts.size->(∀t∈ps,t<nt)->(∀t v,e.get t=some v->Rel g v (ts.getD t undef))->
   nt<=((ps.zip us).foldl (fun (tmps:Array Value) (x:Nat×Value)=>tmps.setIfInBounds x.1 x.2) ts).size/\ ∀t v,(ZJV ps vs e).get t=some v->Rel g v (((ps.zip us).foldl (fun (tmps:Array Value) (x:Nat×Value)=>tmps.setIfInBounds x.1 x.2) ts).getD t undef)
 | [],vs,us,e,ts,nt,_,hn,_,he=>⟨by simpa using hn,fun t v hv=>by simp only [ZJV] at hv;simpa using he t v hv⟩
 | p::ps,[],us,e,ts,nt,hr,hn,_,he=>by
   simp only [Rels] at hr;subst hr;exact ⟨by simpa using hn,fun t v hv=>by simp only [ZJV] at hv;simpa using he t v hv⟩
 | p::ps,v::vs,us,e,ts,nt,hr,hn,hp,he=>by
   simp only [Rels] at hr;obtain ⟨u,us,rfl,h1,h2⟩:=hr;simp only [List.zip_cons_cons,List.foldl_cons,ZJV];have hpl:p<nt:=hp p Zs;refine ZLl h2 (by simpa using hn) (fun t ht=>hp t (Yk _ ht)) fun t x hx=>?_;rw [T.get_set] at hx;split at hx
   · rename_i htp;cases hx;subst htp;have:t<ts.size:=by omega
     simpa [Array.getD,this] using h1
   · rename_i htp;have:=he t x hx;simp only [yN] at this⊢;rw [Array.getElem?_setIfInBounds_ne (qY htp)];exact this
def ZKO (hF:Zcv P F) {b0 nt:Nat} (hh:HR g h w) (he:EnvR g e a) (hs:nt<=a.tmps.size) (hm:Mk b0 g.dfs g w) (hb:b0<=w.heap.size) {x0:Operand} {ps:Array Tmp} {as bd:Code} {v:V} {x:X} (hv:ev e x0=some v)
   (hx:ZL1 P F nt ps.toList as bd v e h=some (x,e',h')) {Q:Exit->Act->World->Prop} (hD:DoneD b0 nt e' h' g w (Q x.toExit)):(Code.rangeFunc x0 ps as bd).wpIn (FR none) 0 P Q a w:=by
 obtain ⟨f',first,caps,z,h1,st,pend,e2,nt2,ps2,as2,bd2,rfl,⟨hlt,hent⟩,hcall,hob,hst,hj,rfl,rfl⟩:=ZIW hx;have hfr:=ZG6 he hv;simp only [Rel] at hfr;obtain ⟨fs,cs,hval,r1,r2⟩:=hfr;refine wpIn_rangeFunc fun fn _=>?_;have hent:Zhz P f'=true:=hent;obtain ⟨q2,hq2⟩: ∃q2:G,q2=g.grow h.next (w.heap.size+1) 0:=⟨_,rfl⟩
 obtain ⟨r0,hr0⟩: ∃r0:Loop,r0={state:= .ready,pending:=none,fn,tmps:=a.tmps,params:=ps,assign:=as,body:=bd,defers:=w.heap.size}:=⟨_,rfl⟩
 obtain ⟨w1,hw1⟩: ∃w1:World,w1=w.alloc (.deferred (some [])):=⟨_,rfl⟩
 have hsz1:w1.heap.size=w.heap.size+1:=by rw [hw1];exact World.size_alloc ..
 have hget1: ∀k,k<w.heap.size->w1.heap[k]? =w.heap[k]? :=fun k hk=>by
   rw [hw1];show (w.heap.push _)[k]? =_;rw [qP,if_neg Zo]
 have hh1:HR g h w1:=hh.frame Zo (fun b hb=>hget1 b ((Yt b w.heap.size).resolve_right fun h=>hb (hh.dt.fr b h))) fun b hb=>hget1 _ (hh.blk b hb).2;have hg1:Grew g w g w1:=⟨by rw [hw1];rfl,by rw [hw1];rfl,by rw [hw1];rfl,by omega,fun k hk _=>hget1 k hk,fun b hb=> .inl ⟨b,hb,rfl⟩,fun _ _=>rfl⟩
 obtain ⟨w2,hw2⟩: ∃w2:World,w2=w1.alloc (.loop r0):=⟨_,rfl⟩
 have hh2:HR q2 (h.new (.loop .ready none e nt ps.toList as bd)) w2:=by
   have:=hh1.push (.loop .ready none e nt ps.toList as bd) (.loop r0) 0 (by
     unfold ObOK;rw [ZHl];refine ⟨r0,by show (w1.heap.push _)[_]? =_;simp,?_,rfl⟩;rw [hr0];exact ⟨rfl,rfl,rfl,rfl,rfl,hs,fun t v hv=>(he.2 t v hv).mono (ZHo g hh.fresh _ _)⟩) (fun _ _ _ _ h=>by cases h) none (fun _ _ h=>by cases h)
   rw [hq2,hw2,<-hsz1];exact this
 have hle2:Le g q2:=by rw [hq2];exact hh1.le_grow _ _
 have hg2:Grew g w1 q2 w2:=by
   rw [hq2,hw2,<-hsz1];exact ZH8 hh.fresh (.loop r0) 0
 have hex2:q2.ex h.next:=by rw [hq2];exact ZNu g _ _ _
 have hβ2:q2.β h.next=(w.heap.size+1,0):=by rw [hq2];exact ZHl g _ _ _
 have hmk2:Mk b0 (mark w.heap.size::g.dfs) q2 w2:=by
   obtain ⟨bs,m1,m2,m3⟩:=hm.mono (hg1.trans hg2);obtain ⟨bs',m1',m2',m3'⟩:=hm;have hbs:bs'=bs:=by
     have:=m1'.symm.trans m1;refine List.map_inj_right (f:=mark) (fun x y hxy=>?_)|>.1 this;unfold mark at hxy;simpa using hxy
   subst hbs;refine ⟨w.heap.size::bs',by rw [Yp,<-m1],yK.2 ⟨fun hin=>?_,m2⟩,fun r hr=>?_⟩
   · have:=(Array.getElem?_eq_some_iff.1 (m3' _ hin).2.1).1;omega
   · rcases List.mem_cons.1 hr with rfl|hr
     · refine ⟨hb,?_,fun b hb=>?_,?_⟩
       · rw [hg2.old _ Zo fun b hb he=>by have:=(hh.blk b hb).2;omega];rw [hw1];exact World.alloc_heap_new ..
       · rcases hg2.img b hb with ⟨b1,z1,z2⟩|z1
         · have:=(hh.blk b1 z1).2;omega
         · omega
       · rw [hq2];exact hh.dt.fr _ (Yc _)
     · exact m3 r hr
 have hrel:Rels q2 (first++[.yld h.next]++caps) (fs++[Value.func (.yield (w.heap.size+1)) #[] #[]]++cs):=by
   have hy:Rels q2 [.yld h.next] [Value.func (.yield (w.heap.size+1)) #[] #[]]:=by
     simp only [Rels,Rel];exact ⟨_,_,rfl,⟨hex2,by rw [hβ2]⟩,rfl⟩
   exact ((r1.mono hle2.toLe0).append hy).append (r2.mono hle2.toLe0)
 have heq:(fs.toArray++ #[Value.func (.yield (w.heap.size+1)) #[] #[]]++cs.toArray)=(fs++[Value.func (.yield (w.heap.size+1)) #[] #[]]++cs).toArray:=by
   apply Array.toList_inj.1;simp
 refine ⟨w.heap.size+1,[mark w.heap.size],w2,{target:= .fn (.func f') cs.toArray,args:=fs.toArray++ #[.func (.yield (w.heap.size+1)) #[] #[]]},w2,f',_,w2,?_,?_,fun _ _=>trivial,Zpc hent _ _,fun hd=>(by cases hd),?_⟩
 · show (Instr.enterLoop fn a.tmps ps as bd none).run P w=_;rw [run_enterLoop_outer,hw2,hw1,hr0];rfl
 · simp only [resolve,rangeCall,hval,Deferred.ofValue,qI];simp [Act.eval]
 · rcases (hF _ _ _ _ _ hcall).1 hlt with ⟨_,c2⟩|⟨_,c2⟩
   · refine ZJY.2 ?_;rw [heq];refine (c2 q2 w2 _ hh2 hrel).mono ?_;rintro r w3 ⟨u,q3,rfl,z1,hh3,hle3,hg3⟩;have hex3:q3.ex h.next:=hle3.ex _ hex2;have hβ3:q3.β h.next=(w.heap.size+1,0):=by rw [hle3.β _ hex2];exact hβ2
     have hO:=hh3.ob _ _ hex3 hob;unfold ObOK at hO;obtain ⟨r,k1,k2,k3⟩:=hO;have k1':w3.heap[w.heap.size+1]? =some (.loop r):=by rw [hβ3] at k1;exact k1
     have hend:=run_endLoop (P:=P) k1' (by rw [k2.state];exact hst);refine ⟨pend.map X.code,w3.putObj (w.heap.size+1) (.loop {r with state:= .exhausted}),hend.trans (congrArg (fun j=>Result.ok j _) k2.pend),?_⟩;have hput:=hh3.putObj (o':= .loop .exhausted pend e2 nt2 ps2 as2 bd2) (ob:= .loop {r with state:= .exhausted}) hex3 hob rfl rfl (by
       unfold ObOK;exact ⟨_,Zyb hh3 hex3 _,⟨rfl,k2.pend,k2.ps,k2.assign,k2.body,k2.nt,k2.env⟩,k3⟩)
     have hgp:=ZIL hh3 hex3 (.loop {r with state:= .exhausted});rw [hβ3] at hput hgp;have hD':Q x.toExit {a with defers:=[mark w.heap.size]++a.defers} (w3.putObj (w.heap.size+1) (.loop {r with state:= .exhausted})):=by
       refine hD _ _ (q3.with (mark w.heap.size::g.dfs)) ⟨by rw [<-he.1];rfl,fun t v hv=>?_⟩ hs (hput.with _) ?_ ?_ ?_
       · exact ((he.2 t v hv).mono (hle2.trans hle3).toLe0).mono (ZH0 _ _)
       · exact (hle2.trans hle3).toD.trans (ZIF _ _)
       · have:=(((hg1.trans hg2).trans hg3).trans hgp).with g.dfs (mark w.heap.size::g.dfs);exact this
       · exact ((hmk2.mono hg3).mono hgp).mono ((Grew.refl q3 _).with q3.dfs (mark w.heap.size::g.dfs))
     cases pend with
     | none=>
       simp only [ZNh,Ye] at hj;subst hj;exact hD'
     | some y=>
       cases y with
       | normal=>cases hj
       | exit i=>
         simp only [ZNh,Ye] at hj;subst hj;exact wpIn_exit hD'
       | ret=>
         simp only [ZNh,Ye] at hj;subst hj;exact wpIn_ret hD'
   · obtain ⟨u,c3,_⟩:=c2 q2 w2 _ hrel;rw [Zpc hent] at c3;cases c3
def Zs2 {tab:Nat->Option Fn} (hN: ∀n,ZHz (Zja P tab (exec P tab n))) (hC: ∀n,Zv5 P tab n->Zcv P (Zja P tab (exec P tab n))): ∀n,∀k,k<=n->Zv5 P tab k:=by
 intro n
 induction n with
 | zero=>
   intro k hk r nt c e h x e' h' hx;have:k=0:=by omega
   subst this;simp [exec] at hx
 | succ n ih=>
   intro k hk;rcases Yt k (n+1) with hlt|hge
   · exact ih k Zo
   have:k=n+1:=by omega
   subst this;have hP:=ih n (Yc _);intro r nt c e h x e' h' hx R b0 g a w hR hh he hs hm hb Q hD;cases c with
   | skip=>
     simp only [exec,Ye,YM] at hx;obtain ⟨rfl,rfl,rfl⟩:=hx;exact wpIn_skip (hD a w g he hs hh (LeD.refl g) (Grew.refl _ _) hm)
   | label l=>
     simp only [exec,Ye,YM] at hx;obtain ⟨rfl,rfl,rfl⟩:=hx;exact wpIn_label (hD a w g he hs hh (LeD.refl g) (Grew.refl _ _) hm)
   | region id ops draw=>
     simp only [exec] at hx;split at hx
     · rename_i e1 h1 hr;simp only [Ye,YM] at hx;obtain ⟨rfl,rfl,rfl⟩:=hx;split at hr
       · rename_i hdr;subst hdr;exact ZLP (hC n hP) (hN n) hh he hs hr (hD.done hm)
       · rename_i hdr;have hdr:draw=false:=by simpa using hdr
         subst hdr;refine wpIn_region ?_;rw [List.range_eq_range'];exact ZpG (hC n hP) ops.size 0 Zo hh he hs (by simpa using hr) (hD.done hm)
     · cases hx
   | seq c1 c2=>
     simp only [exec] at hx;refine wpIn_seq ?_;split at hx
     · rename_i e1 h1 h2;refine hP r nt c1 e h .normal e1 h1 h2 R b0 g a w hR hh he hs hm hb _ fun a1 w1 g1 q1 q2 q3 q4 q5 q6=>?_;exact hP r nt c2 e1 h1 x e' h' hx R b0 g1 a1 w1 hR q3 q1 q2 q6 (Yy hb q5.size) Q (hD.next q4 q5)
     · rename_i r0 hr;refine hP r nt c1 e h x e' h' hx R b0 g a w hR hh he hs hm hb _ fun a1 w1 g1 q1 q2 q3 q4 q5 q6=>?_;have hq:=hD a1 w1 g1 q1 q2 q3 q4 q5 q6;cases x with
       | normal=>exact absurd hx (fun hh=>hr _ _ hh)
       | exit id=>exact hq
       | ret=>exact hq
   | cond x0 c1 c2=>
     simp only [exec] at hx;split at hx
     · rename_i t ht;refine wpIn_cond (ZHH (ZG6 he ht)) ?_;cases t with
       | true=>exact hP r nt c1 e h x e' h' hx R b0 g a w hR hh he hs hm hb Q hD
       | false=>exact hP r nt c2 e h x e' h' hx R b0 g a w hR hh he hs hm hb Q hD
     · cases hx
   | block id c1=>
     simp only [exec] at hx;refine wpIn_block ?_;split at hx
     · rename_i i e1 h1 hr;refine hP r nt c1 e h (.exit i) e1 h1 hr R b0 g a w hR hh he hs hm hb _ fun a1 w1 g1 q1 q2 q3 q4 q5 q6=>?_;split at hx
       · rename_i hi;simp only [Ye,YM] at hx;obtain ⟨rfl,rfl,rfl⟩:=hx;have hi:i=id:=by simpa using hi
         simp only [X.toExit,Exit.inBlock,hi,if_true];exact hD a1 w1 g1 q1 q2 q3 q4 q5 q6
       · rename_i hi;simp only [Ye,YM] at hx;obtain ⟨rfl,rfl,rfl⟩:=hx;have hi:i≠id:=by simpa using hi
         simp only [X.toExit,Exit.inBlock,hi,if_false];exact hD a1 w1 g1 q1 q2 q3 q4 q5 q6
     · rename_i r0 hr;refine hP r nt c1 e h x e' h' hx R b0 g a w hR hh he hs hm hb _ fun a1 w1 g1 q1 q2 q3 q4 q5 q6=>?_;have hq:=hD a1 w1 g1 q1 q2 q3 q4 q5 q6;cases x with
       | normal=>exact hq
       | exit i=>exact absurd hx (fun hh=>hr _ _ _ hh)
       | ret=>exact hq
   | loop c1=>
     let I:Nat->Act->World->Prop:=fun m a w=>m<=n+1/\ ∃g1 e1 h1,exec P tab m r nt (.loop c1) e1 h1=some (x,e',h')/\HR g1 h1 w/\EnvR g1 e1 a/\nt<=a.tmps.size/\Mk b0 g1.dfs g1 w/\b0<=w.heap.size/\DoneD b0 nt e' h' g1 w (Q x.toExit)
     refine ZKG I (n:=n+1) (fun m a w hI=>?_) ⟨Yc _,g,e,h,hx,hh,he,hs,hm,hb,hD⟩;obtain ⟨hmn,g1,e1,h1,hx1,hh1,he1,hs1,hm1,hb1,hD1⟩:=hI;cases m with
     | zero=>simp [exec] at hx1
     | succ m=>
       simp only [exec] at hx1;have hPm:=ih m Zo;split at hx1
       · rename_i e2 h2 hr;refine hPm r nt c1 e1 h1 .normal e2 h2 hr R b0 g1 a w hR hh1 he1 hs1 hm1 hb1 _ fun a2 w2 g2 q1 q2 q3 q4 q5 q6=>?_;exact ⟨m,by omega,by omega,g2,e2,h2,hx1,q3,q1,q2,q6,Yy hb1 q5.size,hD1.next q4 q5⟩
       · rename_i r0 hr;refine hPm r nt c1 e1 h1 x e' h' hx1 R b0 g1 a w hR hh1 he1 hs1 hm1 hb1 _ fun a2 w2 g2 q1 q2 q3 q4 q5 q6=>?_;have hq:=hD1 a2 w2 g2 q1 q2 q3 q4 q5 q6;cases x with
         | normal=>exact absurd hx1 (fun hh=>hr _ _ hh)
         | exit i=>exact hq
         | ret=>exact hq
   | exit id=>
     simp only [exec,Ye,YM] at hx;obtain ⟨rfl,rfl,rfl⟩:=hx;exact wpIn_exit (hD a w g he hs hh (LeD.refl g) (Grew.refl _ _) hm)
   | ret=>
     simp only [exec,Ye,YM] at hx;obtain ⟨rfl,rfl,rfl⟩:=hx;exact wpIn_ret (hD a w g he hs hh (LeD.refl g) (Grew.refl _ _) hm)
   | scope b=>
     simp only [exec] at hx;refine ZIf (hP r nt b e h x e' h' hx R b0 g a w hR hh he hs hm hb _ fun a1 w1 g1 q1 q2 q3 q4 q5 q6=>?_);have hq:=hD a1 w1 g1 q1 q2 q3 q4 q5 q6;cases x with
     | normal=>exact hq
     | exit i=>exact hq
     | ret=>exact hq
   | rangeFunc f ps as bd=>
     simp only [exec] at hx;split at hx
     · cases hx
     · rename_i hr;have hR':R=none:=hR (by simpa using hr);subst hR';split at hx
       · rename_i v hv;exact ZKO (hC n hP) hh he hs hm hb hv hx hD
       · cases hx
   | _=>simp [exec] at hx
def ZqV: ∀(xs:List V) (k j:Nat) (e:Env),(enter k xs e).get j=if k<=j/\j<k+xs.length then xs[j-k]? else e.get j
 | [],k,j,e=>by
   have: ¬(k<=j/\j<k+0):=by omega
   simp only [enter,qX,this,if_false]
 | x::xs,k,j,e=>by
   simp only [enter];rw [ZqV xs (k+1) j,T.get_set];by_cases h1:j=k
   · subst h1;have h2: ¬(j+1<=j/\j<j+1+xs.length):=by omega
     rw [if_neg h2,if_pos rfl,if_pos Zs];simp
   · by_cases h2:k+1<=j/\j<k+1+xs.length
     · rw [if_pos h2,if_pos Ze];rw [show j-k=(j-(k+1))+1 by omega];simp
     · rw [if_neg h2,if_neg h1,if_neg Ze]
def EnvR.begin {args:List V} {vs:List Value} {n:Nat} (hd:g.dfs=[]) (h:Rels g args vs):EnvR g (enter 0 args .nil) {tmps:=vs.toArray++Array.replicate (n-vs.toArray.size) undef,defers:=[]}:=by
 refine ⟨hd.symm,fun t v ht=>?_⟩;obtain ⟨t,rfl⟩: ∃t₀:Nat,t₀=t:=⟨t,rfl⟩
 rw [ZqV] at ht;obtain ⟨hl,hr⟩:=Rels.iff.1 h;split at ht
 ·rename_i hlt;simp only [Nat.sub_zero] at ht;have hv:vs[t]? =some (vs[t]'(by omega)):=Ya _;have hgd:(vs.toArray++Array.replicate (n-vs.toArray.size) undef).getD t undef=vs[t]'(by omega):=by
   simp only [yN];rw [qO Ze];simp [hv]
  show Rel g v ((vs.toArray++Array.replicate (n-vs.toArray.size) undef).getD t undef);rw [hgd];exact hr t v _ ht hv
 ·rw [T.get_nil] at ht;cases ht
def ZK3 (hh:HR g h w) (he:EnvR g e a): ∀{rs:List ResultVar} {vs:List V},resV P e h rs=some vs-> ∃us:List Value,Rels g vs us/\rs.length=us.length/\ ∀(j:Nat) x u,rs[j]? =some x->us[j]? =some u->(Zk0 a.tmps x).run P w= .ok u w
 | [],vs,hx=>by
   simp only [resV,Ye] at hx;subst hx;exact ⟨[],rfl,rfl,fun j x u h=>by simp at h⟩
 | .tmp t::r,vs,hx=>by
   simp only [resV] at hx;split at hx
   · rename_i v vs' h1 h2;simp only [Ye] at hx;subst hx;obtain ⟨us,q1,q2,q3⟩:=ZK3 hh he h2;refine ⟨a.tmps.getD t undef::us,⟨_,us,rfl,he.2 t v h1,q1⟩,by simp [q2],fun j x u hj hu=>?_⟩;cases j with
     | zero=>simp only [Yi,Ye] at hj hu;subst hj;subst hu;rfl
     | succ j=>exact q3 j x u (by simpa using hj) (by simpa using hu)
   · cases hx
 | .cell p t::r,vs,hx=>by
   simp only [resV] at hx;split at hx
   · rename_i pv h1;split at hx
     · rename_i v vs' h2 h3;simp only [Ye] at hx;subst hx;obtain ⟨us,q1,q2,q3⟩:=ZK3 hh he h3;unfold ZNO at h2;split at h2
       · rename_i b i;split at h2
         · rename_i cs hrd;obtain ⟨hb,hv⟩:=ZI9 (he.2 p _ h1);obtain ⟨vs,ty,r1,r2,r3,r4⟩:=hh.read hb hrd;obtain ⟨u0,l1,l2⟩:=ZLe hh he r1 r4 h2;refine ⟨u0::us,⟨_,us,rfl,l2,q1⟩,by simp [q2],fun j x u hj hu=>?_⟩;cases j with
           | zero=>
             simp at hj hu;subst hj;subst hu;simp only [Zk0];rw [hv];simp only [asAddr];rw [qD,qI,qA];exact l1
           | succ j=>exact q3 j x u (by simpa using hj) (by simpa using hu)
         · cases h2
       · rename_i cs;have hr:=he.2 p _ h1;simp only [Rel] at hr;obtain ⟨b,q,hv,hc⟩:=hr;obtain ⟨u0,l1,l2⟩:=ZgH (P:=P) (g:=g) (w:=w) (b:=b) (i:=q) (fun j y hy=>by
           rw [Yn,YG] at hy;obtain ⟨z0,hz0,rfl⟩:=hy;obtain ⟨u,r1,r2,r3⟩:=hc j z0 hz0;exact ⟨u,hh.dt.kp _ _ _ r2 r1,ZJ1 r3⟩) h2
         refine ⟨u0::us,⟨_,us,rfl,l2,q1⟩,by simp [q2],fun j x u hj hu=>?_⟩;cases j with
         | zero=>
           simp at hj hu;subst hj;subst hu;simp only [Zk0];rw [hv];simp only [asAddr];rw [qD,qI,qA];exact l1
         | succ j=>exact q3 j x u (by simpa using hj) (by simpa using hu)
       · cases h2
     · cases hx
   · cases hx
theorem ZNJ {vs:List V} {us:List Value} (h:Rels g vs us):Rel g (retV vs) (Am.retV us):=by
 match vs,us,h with
 | [],us,h=>have:us=[]:=h;subst this;simp only [retV,Am.retV,Rel];exact ⟨[],rfl,rfl⟩
 | [v],us,h=>
   simp only [Rels] at h;obtain ⟨u,r,rfl,h1,h2⟩:=h;have:r=[]:=h2;subst this;exact h1
 | v::v'::vs,us,h=>
   have h0:=h;simp only [Rels] at h;obtain ⟨u,r,rfl,h1,u',r',rfl,h2,h3⟩:=h;simp only [retV,Am.retV,Rel];exact ⟨_,rfl,h0⟩
def ZI6 {n:Nat} {fn:Func} {tmps:Array Value} {Q:Ending->World->Prop} {g0:G} {w0:World}: ∀(bs:List Nat) (w:World),bs.Nodup->(∀r∈bs,w0.heap.size<=r/\w.heap[r]? =some (.deferred (some []))/\(∀b,g.ex b->(g.β b).1≠r)/\g.pr0 r=0)->
   HR g h w->Grew g0 w0 g w->(∀w',HR g h w'->Grew g0 w0 g w'-> ∃v,(results fn tmps).run P w'= .ok v w'/\Q (.returned v) w')->LeavesInM (FR none) n P fn tmps Q (bs.map mark) .returning w
 | [],w,_,_,hh,hg,hK=>hK w hh hg
 | r::bs,w,hn,hb,hh,hg,hK=>by
   obtain ⟨q1,q2,q3,q4⟩:=hb r Zs;rw [yK] at hn;refine ⟨by simp,.inl ⟨r,_,rfl,run_takeDeferred q2,?_⟩⟩;have hlt:r<w.heap.size:=(Array.getElem?_eq_some_iff.1 q2).1;have hget: ∀k,k≠r->(w.putObj r (.deferred none)).heap[k]? =w.heap[k]? :=fun k hk=>World.putObj_heap_other hk;refine ZI6 bs _ hn.2 (fun r' hr'=>?_) (hh.frame Zs (fun b hb=>hget b fun he=>hb (by rw [he];exact q4)) fun b hb=>hget _ (q3 b hb)) (hg.outside rfl rfl rfl Zs fun k hk=>hget k Zo) hK;obtain ⟨z1,z2,z3⟩:=hb r' (Yk _ hr');exact ⟨z1,by rw [hget r' fun he=>hn.1 (he ▸ hr')];exact z2,z3⟩
theorem ZK9 {tab:Nat->Option Fn} (hT:ZKg P tab) (n:Nat) (hE:Zv5 P tab n) {f:Nat} {args:List V} {v:V} (hx:ZK8 P tab (exec P tab n) f args h=some (v,h')):ZIT P f args h v h':=by
 have hTf:=hT f;unfold ZK8 at hx;split at hx
 ·rename_i fn hfn;rw [hfn] at hTf;have hfn:P.funcs[f]? =some fn:=hTf;split at hx
  ·rename_i c hc;split at hx
   ·cases hx
   ·rename_i hcond;simp only [qL,beq_iff_eq,decide_eq_true_eq,not_or,Nat.not_lt] at hcond;obtain ⟨hname,hlen⟩:=hcond;refine .inl ⟨by simp only [Zhz,hfn,hc,Option.isSome_some,Bool.and_true,bne_iff_ne];exact hname,fun g w vs hh hr=>?_⟩;obtain ⟨x,e,h2,hxe,hnx,hres⟩: ∃x e h2,exec P tab n false fn.ntmps c (enter 0 args .nil) h=some (x,e,h2)/\(x= .normal∨x= .ret)/\(match resV P e h2 fn.results.toList with|some vs=>some (retV vs,h2)|none=>none)=some (v,h'):=by
     split at hx
     ·cases hx
     ·rename_i x e h2 hnx he;refine ⟨x,e,h2,he,?_,hx⟩;cases x with
      | normal=>exact .inl rfl
      | ret=>exact .inr rfl
      | exit i=>exact absurd rfl (hnx i)
     ·cases hx
    split at hres
    ·rename_i rs hrs;simp only [Ye,YM] at hres;obtain ⟨rfl,rfl⟩:=hres;have hl:=hr.len;have hr':Rels (g.with []) args vs:=hr.mono (ZH0 g []);refine ZJY.1 (callsIn_of_wp_marks (n:=0) hfn hc trivial (hE false fn.ntmps c _ _ x e _ hxe none w.heap.size (g.with []) _ w (fun _=>rfl) (hh.with []) (EnvR.begin (n:=fn.ntmps) rfl hr') Ze Mk.nil (Yc _) _ fun a' w' g' q1 q2 q3 q4 q5 q6=>?_));obtain ⟨bs,m1,m2,m3⟩:=q6;have hpost:LeavesInM (FR none) 0 P fn a'.tmps (fun r w'=> ∃u g',r= .returned u/\Rel g' (retV rs) u/\HR g' h2 w'/\Le g g'/\Grew g w g' w') a'.defers .returning w':=by
      rw [q1.1,m1];refine ZI6 (g:=g') (h:=h2) (g0:=g.with []) (w0:=w) bs w' m2 m3 q3 q5 fun w3 hh3 hg3=>?_;obtain ⟨us,u1,u2,u3⟩:=ZK3 (P:=P) hh3 q1 hrs;refine ⟨_,Zra (by simpa using u2) (fun j y u hj hu=>u3 j y u (by simpa using hj) hu),_,g'.with g.dfs,rfl,(ZNJ u1).mono (ZH0 _ _),hh3.with _,?_,hg3.with g.dfs g.dfs⟩;exact (((ZIF g []).trans q4).trans (ZIF _ _)).le rfl
     rcases hnx with rfl|rfl<;>exact hpost
    ·cases hres
  ·cases hx
 ·rename_i p hp;rw [hp] at hTf;exact (hTf _ _ _ _ hx).1
 ·rename_i p hp;rw [hp] at hTf;simp only [YG,YM] at hx;obtain ⟨u,hu,rfl,rfl⟩:=hx;exact hTf _ _ _ hu
 ·cases hx
def ZKR {tab:Nat->Option Fn} (n:Nat) (hE:Zv5 P tab n) {l:Nat} {args:List V} {v:V} (hx:ZKo (exec P tab n) l args h=some (v,h')):ZMj P l args h v h':=by
 obtain ⟨e,nt,ps,as,bd,e1,h1,p2,e2,nt2,ps2,as2,bd2,x,e4,h2,st3,p3,e3,nt3,ps3,as3,bd3,hob,hlen,hps,hex,hob1,hex2,hob2,rfl,rfl⟩:=ZIN hx;intro g w vs hh hl hr;have hO:=hh.ob _ _ hl hob;unfold ObOK at hO;obtain ⟨r,k1,k2,k3⟩:=hO;have hrs:ps.length=r.params.size:=by rw [<-k2.ps];simp
 refine ⟨r,k1,by rw [<-hr.len,hlen,hrs],?_⟩;have hfold:(r.params.zip vs.toArray).foldl (fun tmps (t,a)=>tmps.setIfInBounds t a) r.tmps=(ps.zip vs).foldl (fun (tmps:Array Value) (x:Nat×Value)=>tmps.setIfInBounds x.1 x.2) r.tmps:=by
  rw [<-k2.ps,<-jP,Array.toList_zip]
 rw [hfold];have hr':Rels (g.with []) args vs:=hr.mono (ZH0 g []);obtain ⟨b1,b2⟩:=ZLl (ps:=ps) hr' k2.nt hps fun t v hv=>(k2.env t v hv).mono (ZH0 g []);refine roundIn_of_wpIn (F:=Fence.wide) trivial ?_;rw [k2.assign,k2.body];refine hE true nt as _ _ .normal e1 h1 hex (some (g.β l).1) w.heap.size (g.with []) {tmps:=_,defers:=[]} w (fun h=>by cases h) (hh.with []) ⟨rfl,b2⟩ b1 Mk.nil (Yc _) _ fun a1 w1 g1 q1 q2 q3 q4 q5 q6=>?_;have hl1:g1.ex l:=q4.ex _ hl;have hβ1:g1.β l=g.β l:=q4.β _ hl;have hO1:=q3.ob _ _ hl1 hob1;unfold ObOK at hO1;obtain ⟨r1,j1,j2,j3⟩:=hO1;have j1':w1.heap[(g.β l).1]? =some (.loop r1):=by rw [<-hβ1];exact j1
 refine ⟨_,run_beginRound j1' j2.state,?_⟩;have hput:=q3.putObj (o':= .loop .busy p2 e2 nt2 ps2 as2 bd2) (ob:= .loop {r1 with state:= .busy}) hl1 hob1 rfl rfl (by
  unfold ObOK;exact ⟨_,Zyb q3 hl1 _,⟨rfl,j2.pend,j2.ps,j2.assign,j2.body,j2.nt,j2.env⟩,j3⟩)
 have hgp:=ZIL q3 hl1 (.loop {r1 with state:= .busy});rw [hβ1] at hput hgp;refine hE true nt bd e1 _ x e4 h2 hex2 (some (g.β l).1) w.heap.size g1 a1 _ (fun h=>by cases h) hput q1 q2 (q6.mono hgp) (Yy q5.size hgp.size) _ fun a3 w3 g3 p1 p2 p3 p4 p5 p6=>?_;have hl3:g3.ex l:=p4.ex _ hl1;have hβ3:g3.β l=g.β l:=(p4.β _ hl1).trans hβ1;have hO3:=p3.ob _ _ hl3 hob2;unfold ObOK at hO3;obtain ⟨r3,i1,i2,i3⟩:=hO3;have i1':w3.heap[(g.β l).1]? =some (.loop r3):=by rw [<-hβ3];exact i1
 have fin: ∀(jump:Option Code),jump.isNone=ZHJ x->jump=(ZLo x).map X.code-> ∃v w',(Instr.endRound (g.β l).1 jump).run P w3= .ok v w'/\
   ∃u g',Ending.returned v= .returned u/\Rel g' (.bool (ZHJ x)) u/\HR g' (h2.setObj l (.loop (if ZHJ x then .ready else .done) (ZLo x) e3 nt3 ps3 as3 bd3)) w'/\Le g g'/\Grew g w g' w':=fun jump hj1 hj2=>by
  refine ⟨_,_,run_endRound jump i1',_,g3.with g.dfs,rfl,by simp only [Rel,hj1],?_,?_,?_⟩
  ·have hput3:=p3.putObj (o':= .loop (if ZHJ x then .ready else .done) (ZLo x) e3 nt3 ps3 as3 bd3) (ob:= .loop {r3 with state:=if jump.isNone then .ready else .done,pending:=jump}) hl3 hob2 rfl rfl (by
    unfold ObOK;exact ⟨_,Zyb p3 hl3 _,⟨by rw [hj1],hj2,i2.ps,i2.assign,i2.body,i2.nt,i2.env⟩,i3⟩)
   rw [hβ3] at hput3;exact hput3.with _
  ·exact ((((ZIF g []).trans q4).trans p4).trans (ZIF _ _)).le rfl
  ·have hgp3:=ZIL p3 hl3 (.loop {r3 with state:=if jump.isNone then .ready else .done,pending:=jump});rw [hβ3] at hgp3;exact (((q5.trans hgp).trans p5).trans hgp3).with g.dfs g.dfs
 cases x with
 | normal=>exact fin none rfl rfl
 | exit i=>exact fin (some (.exit i)) rfl rfl
 | ret=>exact fin (some .ret) rfl rfl
def Zk3 {tab:Nat->Option Fn} (hT:ZKg P tab) (n:Nat) (hE:Zv5 P tab n):Zcv P (Zja P tab (exec P tab n)):=by
 intro f args h v h' hx;unfold Zja at hx;refine ⟨fun hlt=>?_,fun l hl=>?_⟩
 ·rw [hlt] at hx;simp only [cond_true] at hx;exact ZK9 hT n hE hx
 ·have hlt:Nat.blt f YB=false:=by
   rw [jJ];intro hb;rw [jA] at hb;omega
  rw [hlt] at hx;simp only [cond_false] at hx;have hs:Nat.sub f YB=l:=by rw [hl];exact xF ..
  rw [hs] at hx;exact ZKR n hE hx
def ZlN {tab:Nat->Option Fn} (hT:ZKg P tab) (n:Nat):Zcv P (call P tab n):=
 Zk3 hT n (Zs2 (ZLW hT) (fun k hk=>Zk3 hT k hk) n n (Yc _))
end Go.Cm
end
section
namespace Go.Cm
variable {P:Program}
def ZMU (w:World):G:=⟨fun _=>False,fun _=>(0,0),fun _=>0,w.heap.size,0,[],fun _=>0,w⟩
def ZLd:H:=⟨0,.nil,.nil,.nil⟩
def start (w:World):HR (ZMU w) ZLd w:=
 ⟨Yc _,fun _ h=>h.elim,rfl,fun k m h=>by simp [ZLd,T.get] at h,fun _ _ _ _ _ h=>h.elim,fun _ h=>h.elim,fun _ _ h=>h.elim,fun k m h=>(by simp [ZLd,T.get] at h),fun _ _ _ h=>h.elim,fun _ _ _ _ _ _ _ _ _ _ h=>h.2.2.elim,fun _ _ _ _ _ _ _ _ h=>h.2.2.elim,fun _ _ _ _ _ _ _ h=>h.elim,fun _ _ _ h=>h.elim,⟨fun _ _ _ h=>absurd h (YI _),fun _ h=>h.elim,fun _ _=>rfl⟩⟩
def gives (P:Program) (tab:Nat->Option Fn) (n f:Nat) (b:Bool):Bool:=Nat.blt f YB && (match call P tab n f [] ZLd with
 | some (.bool c,_)=>c==b
 | _=>false)
def ZJX {tab:Nat->Option Fn} (hT:ZKg P tab) {n f:Nat} {b:Bool} (hf:Am.Zhz P f=true) (hx:gives P tab n f b=true):Am.Zhz P f=true/\ ∀w:World,Calls P f #[] w fun r w'=>r= .returned (.bool b)/\RowKit.Below w.heap.size w w':=by
 unfold gives at hx;rw [Yb] at hx;obtain ⟨hlt,hx⟩:=hx;split at hx
 ·rename_i c h' hc;have hb:c=b:=by simpa using hx
  subst hb;obtain ⟨h1,h2⟩:Am.Zhz P f=true/\_:=((ZlN hT n f [] ZLd _ _ hc).1 hlt).resolve_right fun hr=>by
   obtain ⟨u,r1,_⟩:=hr.2 (ZMU default) default [] rfl;rw [Am.Zpc hf] at r1;cases r1
  refine ⟨h1,fun w=>((h2 (ZMU w) w [] (start w) rfl).mono ?_)⟩;rintro r w' ⟨u,g',rfl,hr,_,_,hg⟩;exact ⟨by rw [ZHH hr],hg.os,hg.tape,hg.output,hg.size,fun k hk=>hg.old k hk fun b hb=>hb.elim⟩
 ·cases hx
def closed_prim [Am.WI] {tab:Nat->Option Fn} (hT:ZKg P tab) {n f:Nat} {b:Bool} (hf:Am.Zhz P f=true) (hx:gives P tab n f b=true):
  Am.Zf2 P f fun args os=>if args.isEmpty && os.isEmpty then some ([.one (.p (.bool b))],[]) else none:=by
 obtain ⟨h1,h2⟩:=ZJX hT hf hx;intro args os rs os' h;simp only at h;split at h
 ·rename_i hc;simp only [Yb,List.isEmpty_iff] at hc;obtain ⟨rfl,rfl⟩:=hc;simp only [Ye,YM] at h;obtain ⟨rfl,rfl⟩:=h;refine ⟨h1,fun g w vs hp _ _ _ _ hf hwi hT'=>?_⟩;have hvs:vs=[]:=by
   have:=hp.1;simpa using this
  subst hvs;refine (h2 w).mono ?_;rintro r w' ⟨rfl,hg⟩;refine ⟨.bool b,g,rfl,?_,rfl,rfl,fun k hk=>hf k (Yy hg.size hk),?_,fun i cs hi=>by simp at hi⟩
  ·exact ⟨hg.os,hg.tape,hg.output,hg.size,fun k o hk=>⟨o,by rw [hg.block k (Am.ZaB hk)];exact hk,.refl _ _⟩,fun k hk=>Yc _,fun k hk ho _=>⟨rfl,ho⟩,fun k hk _ _=>hg.block k hk⟩
  ·exact Am.RepP.bool b
 ·cases h
end Go.Cm
end
