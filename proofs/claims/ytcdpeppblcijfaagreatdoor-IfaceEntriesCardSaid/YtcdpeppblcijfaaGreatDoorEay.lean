/- Part. -/
import Derived.Test.YtcdpeppblcijfaaGreatDoorEax
set_option maxRecDepth 999999
set_option maxHeartbeats 0
set_option linter.all false
section
namespace Go.Am.Fe
variable {S:SF} {Q:QF}
attribute [local simp] ZbO if_pos if_neg decide_eq_true decide_eq_false Yi Yj ZgF Ops.callv List.idxOf?_cons
structure Mo.okn (m:Mo):Prop where
 n:Ok No.okn m.ns
 p:Ok Pr.ok m.ps
 c:Ok Co.okn m.cs
 f:Ok Fu.okn m.fs
def Ok.imp {α:Type} {p q:α->Prop} {l:List α} (h:Ok p l) (hf: ∀x,p x->q x):Ok q l:=⟨h.1,fun x hx=>hf x (h.2 x hx)⟩
end Go.Am.Fe
end
section
namespace Go.Am.Fe
theorem RowsOf.lift {α:Type} {R:List P->Prop} {row:α->List P} {p:α->Prop} {l:LP} (h:RowsOf R l) (hR: ∀r,R r-> ∃x,row x=r/\p x): ∃L:List α,L.map row=l/\Ok p L:=by
 obtain ⟨h1,h2⟩:=h
 suffices∃L:List α,L.map row=l/\ ∀x∈L,p x by
   obtain ⟨L,e,hp⟩:=this
   exact ⟨L,e,by rw [<-e,Yh] at h1;exact h1,hp⟩
 clear h1
 induction l with
 | nil=>exact ⟨[],rfl,fun _ h=>nomatch h⟩
 | cons r l ih=>
   obtain ⟨L,e,hp⟩:=ih fun x hx=>h2 x (Yk _ hx)
   obtain ⟨x,ex,hx⟩:=hR r (h2 r Yr)
   exact ⟨x::L,by simp [e,ex],fun y hy=>(List.mem_cons.1 hy).elim (fun h=>h ▸ hx) (hp y)⟩
def FTy.lift {m:Nat} {k n:Int} {s:LN} {a:LP} (h:FTy m [.i k,.str s,.i n,.sl 4 a]): ∃t:Ty,(t.fit/\t.fw)/\t.k=k/\t.s=s/\t.n=n/\Ty.encs t.a=a:=by
 obtain ⟨⟨k',s',n',a'⟩,e,h1,_⟩:=h
 simp only [Ty.enc,Yf,P.int.injEq,P.str.injEq,P.sl.injEq,true_and,and_true] at e
 obtain ⟨rfl,rfl,rfl,rfl⟩:=e
 exact ⟨_,⟨h1,Ty.fit_fw _ h1⟩,rfl,rfl,rfl,rfl⟩
def FTys.lift {m:Nat} {l:LP} (h:FTys m l): ∃L:List Ty,Ty.encs L=l/\Ok Ty.fw L:=by
 obtain ⟨L,e,h1,h2,_⟩:=h
 exact ⟨L,e,h1,Ty.fws_mem (Ty.fits_fw _ h2)⟩
def FNd.lift {mm:Nat} {o n k m z:Int} {s u:LN} {a t l:LP} (h:FNd mm [.i o,.str s,.i n,.i k,.str u,.i m,.sl 4 a,.sl 4 t,.sl 10 l,.i z]):
  ∃x:Nd,x.fit/\x.row=[.i o,.str s,.i n,.i k,.str u,.i m,.sl 4 a,.sl 4 t,.sl 10 l,.i z]:=by
 obtain ⟨x,e,h1,_⟩:=h
 exact ⟨x,h1,by rw [<-e,Nd.enc_row]⟩
def PaR.lift (r:List P) (h:PaR r): ∃x:Pa,x.row=r/\x.ok:=by
 obtain ⟨m,s,o,k,n,u,a,rfl,h1,h2⟩:=h
 obtain ⟨t,ht,rfl,rfl,rfl,rfl⟩:=h2.lift
 exact ⟨⟨s,o,t⟩,rfl,h1,ht.2⟩
def MeR.lift (r:List P) (h:MeR r): ∃x:Me,x.row=r/\x.ok:=by
 obtain ⟨m1,m2,s,ps,k1,n1,k2,n2,s1,s2,a1,a2,rfl,h1,h2,h3,h4⟩:=h
 obtain ⟨L,rfl,hL⟩:=h2.lift PaR.lift
 obtain ⟨t,ht,rfl,rfl,rfl,rfl⟩:=h3.lift
 obtain ⟨v,hv,rfl,rfl,rfl,rfl⟩:=h4.lift
 exact ⟨⟨s,L,t,v⟩,rfl,h1,hL,ht.2,hv.2⟩
def AsR.lift (r:List P) (h:AsR r): ∃x:As,x.row=r/\x.ok:=by
 obtain ⟨s,bs,rfl,h1,h2⟩:=h
 exact ⟨⟨s,bs⟩,rfl,h1,h2.1⟩
def PrR.lift (r:List P) (h:PrR r): ∃x:Pr,x.row=r/\x.ok:=by
 obtain ⟨s,as,ms,rfl,h1,h2,h3⟩:=h
 obtain ⟨L,rfl,hL⟩:=h2.lift AsR.lift
 obtain ⟨M,rfl,hM⟩:=h3.lift MeR.lift
 exact ⟨⟨s,L,M⟩,rfl,h1,hL,hM⟩
def FiR.lift (r:List P) (h:FiR r): ∃x:Fi,x.row=r/\x.ok:=by
 obtain ⟨m,s,k,n,u,a,b,rfl,h1,h2⟩:=h
 obtain ⟨t,ht,rfl,rfl,rfl,rfl⟩:=h2.lift
 exact ⟨⟨s,t,b⟩,rfl,h1,ht.2⟩
def CaR.lift (r:List P) (h:CaR r): ∃x:Ca,x.row=r/\x.ok:=by
 obtain ⟨m,s,ts,b,rfl,h1,h2⟩:=h
 obtain ⟨L,rfl,hL⟩:=h2.lift
 exact ⟨⟨s,L,b⟩,rfl,h1,hL⟩
def Ty.of_kty {gs:List LN} {t:Ty} (h:KTy gs [.i t.k,.str t.s,.i t.n,.sl 4 (Ty.encs t.a)]):t.kn gs:=by
 obtain ⟨u,e,g⟩:=h
 obtain rfl:u=t:=Ty.enc_inj (by rw [e];cases t;rfl)
 exact g
theorem Ty.of_ktys {gs:List LN} {l:List Ty} (h:KTys gs (Ty.encs l)): ∀t∈l,t.kn gs:=by
 obtain ⟨L,e,g⟩:=h
 obtain rfl:=Ty.encs_inj e
 clear e
 induction L with
 | nil=>exact fun _ h=>nomatch h
 | cons x L ih=>exact fun t ht=>(List.mem_cons.1 ht).elim (fun e=>e ▸ g.1) (ih g.2 t)
structure No.kn (x:No):Prop where
 nd:x.gs.Nodup
 fs: ∀f∈x.fs,f.t.kn x.gs
 cs: ∀c∈x.cs,∀t∈c.ts,t.kn x.gs
structure No.Good (x:No):Prop where
 ok:x.okn
 f:(x.fs.map Fi.s).Nodup
 c:(x.cs.map Ca.s).Nodup
 fl:x.fs.length<=90000
 cl:x.cs.length<=90000
 kn:x.kn
def NoR.lift (r:List P) (h:NoR r): ∃x:No,x.row=r/\x.Good:=by
 obtain ⟨mm,s,kd,gs,b1,b2,fs,cs,o,n,k,m,z,s1,u,a,t,l,rfl,h1,h2,h3,h4,h5,h6,h7,h8,h9⟩:=h
 obtain ⟨L,rfl,hL⟩:=h3.lift FiR.lift
 obtain ⟨M,rfl,hM⟩:=h4.lift CaR.lift
 obtain ⟨x,hx,ex⟩:=h5.lift
 obtain ⟨h9,k1,k2,k3⟩:=h9
 rw [Yh] at h8 h9
 have e1:nmL (L.map Fi.row)=L.map Fi.s:=by simp only [nmL,YK];rfl
 have e2:nmL (M.map Ca.row)=M.map Ca.s:=by simp only [nmL,YK];rfl
 rw [e1] at h6
 rw [e2] at h7
 refine ⟨⟨s,kd,gs,b1,b2,L,M,x⟩,?_,⟨⟨h1,h2.1,hL,hM⟩,h2⟩,h6,h7,h8,h9,k1,fun f hf=>Ty.of_kty (k2 _ (List.mem_map_of_mem hf)),fun c hc=>?_⟩
 rotate_left
 ·obtain ⟨s',ts,b',e,hk⟩:=k3 _ (List.mem_map_of_mem hc)
  simp only [Ca.row,Yf,P.sl.injEq,true_and,and_true] at e
  exact Ty.of_ktys (e.2.1 ▸ hk)
 simp only [Yf,P.int.injEq,P.str.injEq,P.sl.injEq,true_and,and_true] at ex⊢
 exact ex
def ReR.lift (r:List P) (h:ReR r): ∃x:Re,x.row=r/\x.ok:=by
 obtain ⟨m1,m2,o,s,k1,n1,k2,n2,s1,s2,a1,a2,rfl,h1,h3,h4⟩:=h
 obtain ⟨t,ht,rfl,rfl,rfl,rfl⟩:=h3.lift
 obtain ⟨v,hv,rfl,rfl,rfl,rfl⟩:=h4.lift
 exact ⟨⟨o,t,s,v⟩,rfl,h1,ht.2,hv.2⟩
structure Co.kn (x:Co):Prop where
 nd:x.gs.Nodup
 rs: ∀q∈x.rs,q.t.kn x.gs/\q.o.kn x.gs
 ts: ∀t∈x.ts,t.kn x.gs
def CoR.lift (r:List P) (h:CoR r): ∃x:Co,x.row=r/\x.okn/\x.kn:=by
 obtain ⟨m1,m2,s,k,n,u,a,gs,qs,ts,fs,rfl,h1,h2,h3,h4,h5,h6⟩:=h
 obtain ⟨t,ht,rfl,rfl,rfl,rfl⟩:=h2.lift
 obtain ⟨L,rfl,hL⟩:=h4.lift ReR.lift
 obtain ⟨M,rfl,hM⟩:=h5.lift
 obtain ⟨h6,k1,k2,k3⟩:=h6
 exact ⟨⟨s,t,gs,L,M,fs⟩,rfl,⟨⟨⟨h1,ht.2,h3.1,hL,hM,h6.1⟩,by cases t;exact ht.1.1.1⟩,h3⟩,k1,fun q hq=>⟨Ty.of_kty (k2 _ (List.mem_map_of_mem hq)).1,Ty.of_kty (k2 _ (List.mem_map_of_mem hq)).2⟩,Ty.of_ktys k3⟩
structure Fu.kn (x:Fu):Prop where
 nd:x.gs.Nodup
 rs: ∀q∈x.rs,q.t.kn x.gs/\q.o.kn x.gs
 ps: ∀p∈x.ps,p.t.kn x.gs
 r:x.r.kn x.gs
 e:x.e.kn x.gs
def FuR.lift (r:List P) (h:FuR r): ∃x:Fu,x.row=r/\x.okn/\(47∈x.s∨58∈x.s)/\x.kn/\123∉x.s:=by
 obtain ⟨mm,m1,m2,s,gs,qs,ps,k1,n1,k2,n2,s1,s2,a1,a2,o,n,k,m,z,s3,u,a,t,l,rfl,h1,h2,h3,h4,h5,h6,h7,k1,k2,k3,k4,k5⟩:=h
 obtain ⟨L,rfl,hL⟩:=h3.lift ReR.lift
 obtain ⟨M,rfl,hM⟩:=h4.lift PaR.lift
 obtain ⟨v,hv,rfl,rfl,rfl,rfl⟩:=h5.lift
 obtain ⟨w,hw,rfl,rfl,rfl,rfl⟩:=h6.lift
 obtain ⟨x,hx,ex⟩:=h7.lift
 refine ⟨⟨s,gs,L,M,v,w,x⟩,?_,⟨⟨h1.1,h2.1,hL,hM,hv.2,hw.2⟩,h2⟩,h1.2.1.imp And.left And.left,⟨k1,fun q hq=>?_,fun p hp=>?_,Ty.of_kty k4,Ty.of_kty k5⟩,h1.2.2⟩
 ·simp only [Yf,P.int.injEq,P.str.injEq,P.sl.injEq,true_and,and_true] at ex⊢
  exact ex
 ·have h:=k2 _ (List.mem_map_of_mem hq)
  exact ⟨Ty.of_kty h.1,Ty.of_kty h.2⟩
 ·exact Ty.of_kty (k3 _ (List.mem_map_of_mem hp))
structure Mo.Good (m:Mo):Prop where
 n:Ok No.Good m.ns
 p:Ok Pr.ok m.ps
 c:Ok (fun x=>x.okn/\x.kn) m.cs
 f:Ok (fun x=>x.okn/\(47∈x.s∨58∈x.s)/\x.kn/\123∉x.s) m.fs
def Mo.Good.okn {m:Mo} (h:m.Good):m.okn:=⟨h.n.imp fun _ h=>h.ok,h.p,h.c.imp fun _ h=>h.1,h.f.imp fun _ h=>h.1⟩
def ZFr {noms pro cfs fns:LP} (h1:RowsOf NoR noms) (h2:RowsOf PrR pro) (h3:RowsOf CoR cfs) (h4:RowsOf FuR fns): ∃m:Mo,m.Good/\m.ns.map No.row=noms/\m.ps.map Pr.row=pro/\m.cs.map Co.row=cfs/\m.fs.map Fu.row=fns:=by
 obtain ⟨a,ea,ha⟩:=h1.lift NoR.lift
 obtain ⟨b,eb,hb⟩:=h2.lift PrR.lift
 obtain ⟨c,ec,hc⟩:=h3.lift CoR.lift
 obtain ⟨d,ed,hd⟩:=h4.lift FuR.lift
 exact ⟨⟨a,b,c,d⟩,⟨ha,hb,hc,hd⟩,ea,eb,ec,ed⟩
def Ty.put_self (gs:List LN): ∀(n:Nat) (t:Ty),t.sz<n->t.fw->t.put gs gs=t
 | 0,_,h,_=>absurd h (YH _)
 | n+1,t,hs,ht=>by
   unfold Ty.put Ty.sub
   cases hp:t.pick gs (gs.map Ty.par) with
   | some u=>
     rw [Ty.rep_some hp]
     unfold Ty.pick at hp
     split at hp
     · rename_i hc
       have hi:=List.idxOf_lt_length_iff.2 hc.2
       rw [Yn,Ya hi,YM,List.getElem_idxOf hi] at hp
       injection hp with hp
       obtain ⟨k,s,m,a⟩:=t
       obtain ⟨_,h7,_⟩:=ht
       obtain rfl:k=7:=hc.1
       obtain ⟨rfl,rfl⟩:=h7 rfl
       exact hp.symm
     · cases hp
   | none=>
     rw [Ty.rep_none hp]
     obtain ⟨k,s,m,a⟩:=t
     obtain ⟨h2,h3,h4⟩:=ht
     show Ty.mk k s m (a.map _)=_
     rw [show a.map (Ty.rep (Ty.pick gs (gs.map Ty.par)))=a from (YC fun x hx=>by
       obtain ⟨j,hj,rfl⟩:=YD hx
       exact Ty.put_self gs n _ (by have:=Ty.szs_get hj;simp [Ty.sz] at hs this⊢;omega) (Ty.fws_get h4 hj)).trans (List.map_id a)]
def Ty.put_id {gs:List LN} {t:Ty} (h:t.fw):t.put gs gs=t:=Ty.put_self gs _ t (Yz _) h
def ZEf {α:Type} {l:List α} {f:α->α} (h: ∀x∈l,f x=x):l.map f=l:=(YC h).trans (List.map_id l)
def Re.put_id {gs:List LN} {x:Re} (h:x.ok):x.put gs gs=x:=by unfold Re.put;rw [Ty.put_id h.2.1,Ty.put_id h.2.2]
def Pa.put_id {gs:List LN} {x:Pa} (h:x.ok):x.put gs gs=x:=by unfold Pa.put;rw [Ty.put_id h.2]
end Go.Am.Fe
end
section
namespace Go.Am.Fe
section
variable {α β:Type} {w:Nat} {l:List α}
end
end Go.Am.Fe
end
section
namespace Go.Am.Fe
def Ty.put_seven {A B:List LN} {s:LN} {m:Int} {a:List Ty} (h:s∈A) (hl:A.length=B.length):(Ty.mk 7 s m a).put A B=Ty.par (B[A.idxOf s]'(hl ▸ List.idxOf_lt_length_iff.2 h)):=by
 have hi:A.idxOf s<B.length:=hl ▸ List.idxOf_lt_length_iff.2 h
 unfold Ty.put Ty.sub
 refine Ty.rep_some ?_
 unfold Ty.pick
 rw [if_pos ⟨rfl,h⟩]
 show (B.map Ty.par)[A.idxOf s]? =_
 rw [Yn,Ya hi,YM]
def Ty.put_other {A B:List LN} {k:Int} {s:LN} {m:Int} {a:List Ty} (h:k≠7):(Ty.mk k s m a).put A B= .mk k s m (a.map (Ty.put A B)):=by
 unfold Ty.put Ty.sub
 refine (Ty.rep_none ?_).trans rfl
 unfold Ty.pick
 rw [if_neg fun hc=>h hc.1]
theorem Ty.kns_mem {gs:List LN}: ∀{l:List Ty},Ty.kns gs l-> ∀t∈l,t.kn gs
 | [],_,_,h=>nomatch h
 | _::_,h,_,ht=>(List.mem_cons.1 ht).elim (fun e=>e ▸ h.1) (Ty.kns_mem h.2 _)
def Ty.put_putn {A B D:List LN} (h1:A.length=B.length) (h2:B.length=D.length) (hB:B.Nodup): ∀(n:Nat) (t:Ty),t.sz<n->t.kn A->(t.put A B).put B D=t.put A D
 | 0,_,h,_=>absurd h (YH _)
 | n+1,.mk k s m a,hs,ht=>by
   by_cases hk:k=7
   · subst hk
     have hA:=ht.1 rfl
     have hi:=List.idxOf_lt_length_iff.2 hA
     rw [Ty.put_seven hA h1,Ty.put_seven hA (h1.trans h2),Ty.par,Ty.put_seven (Yl _) h2]
     congr 2
     exact hB.idxOf_getElem _ _
   · rw [Ty.put_other hk,Ty.put_other hk,Ty.put_other hk,YK]
     congr 1
     refine YC fun x hx=>?_
     obtain ⟨j,hj,rfl⟩:=YD hx
     exact Ty.put_putn h1 h2 hB n _ (by have:=Ty.szs_get hj;simp [Ty.sz] at hs this⊢;omega) (Ty.kns_mem ht.2 _ hx)
def Ty.put_put {A B D:List LN} (h1:A.length=B.length) (h2:B.length=D.length) (hB:B.Nodup) {t:Ty} (h:t.kn A):(t.put A B).put B D=t.put A D:=Ty.put_putn h1 h2 hB _ t (Yz _) h
structure Mid (A B D:List LN):Prop where
 a:A.length=B.length
 b:B.length=D.length
 d:B.Nodup
variable {A B D:List LN}
def Mid.res (h:Mid A B D) {l:List Re} (hl: ∀q∈l,q.t.kn A/\q.o.kn A):(l.map (Re.put A B)).map (Re.put B D)=l.map (Re.put A D):=by
 rw [YK];exact YC fun q hq=>by
  show Re.put B D (Re.put A B q)=_
  simp only [Re.put,Ty.put_put h.a h.b h.d (hl q hq).1,Ty.put_put h.a h.b h.d (hl q hq).2]
def ZJS {l:List Pa}:(l.map (Pa.put A B)).map Pa.bare=(l.map Pa.bare).map fun x=>(x.1,x.2.put A B):=by
 rw [YK,YK];rfl
def Mid.pas (h:Mid A B D) {l:List Pa} (hl: ∀p∈l,p.t.kn A):(((l.map (Pa.put A B)).map Pa.bare).map fun x=>(x.1,x.2.put B D))=(l.map (Pa.put A D)).map Pa.bare:=by
 rw [YK,YK,YK];exact YC fun q hq=>by
  show (q.o,(q.t.put A B).put B D)=(q.o,q.t.put A D)
  rw [Ty.put_put h.a h.b h.d (hl q hq)]
end Go.Am.Fe
end
