/- Part. -/
import Derived.Test.YtcdpeppblcijfaaGreatDoorOaw
set_option maxRecDepth 999999
set_option maxHeartbeats 0
set_option linter.all false
section
namespace Go.Am.Fe
variable {S:SF} {Q:QF}
attribute [local simp] ZbO if_pos if_neg decide_eq_true decide_eq_false Yi Yj ZgF Ops.callv List.idxOf?_cons
def No.okn (x:No):Prop:=x.ok/\Sns x.gs
abbrev st2 (m1 m2:Mo) (b:List Rz):List LC:=[RS m1 m2 b,[.ref ⟨false,0,0⟩]]
end Go.Am.Fe
end
set_option maxRecDepth 999999
set_option maxHeartbeats 0
set_option linter.all false
section
namespace Go.Am.Fe
variable {S:SF} {Q:QF}
attribute [local simp] ZbO if_pos if_neg decide_eq_true decide_eq_false Yi Yj ZgF Ops.callv List.idxOf?_cons
structure Mo.okn (m:Mo):Prop where
 n:Ok No.okn m.ns
 p:Ok Pr.ok m.ps
 c:Ok Co.okn m.cs
 f:Ok Fu.okn m.fs
def Ok.imp {α:Type} {p q:α->Prop} {l:List α} (h:Ok p l) (hf: ∀x,p x->q x):Ok q l:=⟨h.1,fun x hx=>hf x (h.2 x hx)⟩
end Go.Am.Fe
end
section
namespace Go.Am.Fe
theorem RowsOf.lift {α:Type} {R:List P->Prop} {row:α->List P} {p:α->Prop} {l:LP} (h:RowsOf R l) (hR: ∀r,R r-> ∃x,row x=r/\p x): ∃L:List α,L.map row=l/\Ok p L:=by
 obtain ⟨h1,h2⟩:=h
 suffices∃L:List α,L.map row=l/\ ∀x∈L,p x by
   obtain ⟨L,e,hp⟩:=this
   exact ⟨L,e,by rw [<-e,Yh] at h1;exact h1,hp⟩
 clear h1
 induction l with
 | nil=>exact ⟨[],rfl,fun _ h=>nomatch h⟩
 | cons r l ih=>
   obtain ⟨L,e,hp⟩:=ih fun x hx=>h2 x (Yk _ hx)
   obtain ⟨x,ex,hx⟩:=hR r (h2 r Yr)
   exact ⟨x::L,by simp [e,ex],fun y hy=>(List.mem_cons.1 hy).elim (fun h=>h ▸ hx) (hp y)⟩
def FTy.lift {m:Nat} {k n:Int} {s:LN} {a:LP} (h:FTy m [.i k,.str s,.i n,.sl 4 a]): ∃t:Ty,(t.fit/\t.fw)/\t.k=k/\t.s=s/\t.n=n/\Ty.encs t.a=a:=by
 obtain ⟨⟨k',s',n',a'⟩,e,h1,_⟩:=h
 simp only [Ty.enc,Yf,P.int.injEq,P.str.injEq,P.sl.injEq,true_and,and_true] at e
 obtain ⟨rfl,rfl,rfl,rfl⟩:=e
 exact ⟨_,⟨h1,Ty.fit_fw _ h1⟩,rfl,rfl,rfl,rfl⟩
def FTys.lift {m:Nat} {l:LP} (h:FTys m l): ∃L:List Ty,Ty.encs L=l/\Ok Ty.fw L:=by
 obtain ⟨L,e,h1,h2,_⟩:=h
 exact ⟨L,e,h1,Ty.fws_mem (Ty.fits_fw _ h2)⟩
def FNd.lift {mm:Nat} {o n k m z:Int} {s u:LN} {a t l:LP} (h:FNd mm [.i o,.str s,.i n,.i k,.str u,.i m,.sl 4 a,.sl 4 t,.sl 10 l,.i z]):
  ∃x:Nd,x.fit/\x.row=[.i o,.str s,.i n,.i k,.str u,.i m,.sl 4 a,.sl 4 t,.sl 10 l,.i z]:=by
 obtain ⟨x,e,h1,_⟩:=h
 exact ⟨x,h1,by rw [<-e,Nd.enc_row]⟩
def Nd.nz (x:Nd):Prop:=x= .zero∨x.op≠0
def Nd.nz_of {x:Nd} (h:x.row=Nd.zero.row∨ ∃(o:Int) (t:List P),x.row= .i o::t/\o≠0):x.nz:=by
 rcases h with h|⟨o,t,h,ho⟩
 ·obtain ⟨op,s,n,⟨k,u,m,a⟩,ts,l,z⟩:=x
  simp only [Nd.row,Nd.zero,Nd.op,Nd.s,Nd.n,Nd.t,Nd.ts,Nd.l,Nd.z,Ty.k,Ty.s,Ty.n,Ty.a,Ty.zero,Ty.encs,Nd.encs,Yf,P.int.injEq,P.str.injEq,P.sl.injEq,true_and,and_true] at h
  obtain ⟨rfl,rfl,rfl,rfl,rfl,rfl,e1,e2,e3,rfl⟩:=h
  have n1: ∀l:List Ty,Ty.encs l=[]->l=[]:=fun l h=>by cases l with|nil=>rfl|cons _ _=>simp [Ty.encs] at h
  have n2: ∀l:List Nd,Nd.encs l=[]->l=[]:=fun l h=>by cases l with|nil=>rfl|cons _ _=>simp [Nd.encs] at h
  obtain rfl:=n1 _ e1
  obtain rfl:=n1 _ e2
  obtain rfl:=n2 _ e3
  exact .inl rfl
 ·refine .inr ?_
  simp only [Nd.row,Yf,P.int.injEq,true_and] at h
  rw [h.1];exact ho
def PaR.lift (r:List P) (h:PaR r): ∃x:Pa,x.row=r/\x.ok:=by
 obtain ⟨m,s,o,k,n,u,a,rfl,h1,h2⟩:=h
 obtain ⟨t,ht,rfl,rfl,rfl,rfl⟩:=h2.lift
 exact ⟨⟨s,o,t⟩,rfl,h1,ht.2⟩
def MeR.lift (r:List P) (h:MeR r): ∃x:Me,x.row=r/\x.ok:=by
 obtain ⟨m1,m2,s,ps,k1,n1,k2,n2,s1,s2,a1,a2,rfl,h1,h2,h3,h4⟩:=h
 obtain ⟨L,rfl,hL⟩:=h2.lift PaR.lift
 obtain ⟨t,ht,rfl,rfl,rfl,rfl⟩:=h3.lift
 obtain ⟨v,hv,rfl,rfl,rfl,rfl⟩:=h4.lift
 exact ⟨⟨s,L,t,v⟩,rfl,h1,hL,ht.2,hv.2⟩
def AsR.lift (r:List P) (h:AsR r): ∃x:As,x.row=r/\x.ok:=by
 obtain ⟨s,bs,rfl,h1,h2⟩:=h
 exact ⟨⟨s,bs⟩,rfl,h1,h2.1⟩
def PrR.lift (r:List P) (h:PrR r): ∃x:Pr,x.row=r/\x.ok:=by
 obtain ⟨s,as,ms,rfl,h1,h2,h3⟩:=h
 obtain ⟨L,rfl,hL⟩:=h2.lift AsR.lift
 obtain ⟨M,rfl,hM⟩:=h3.lift MeR.lift
 exact ⟨⟨s,L,M⟩,rfl,h1,hL,hM⟩
def FiR.lift (r:List P) (h:FiR r): ∃x:Fi,x.row=r/\x.ok:=by
 obtain ⟨m,s,k,n,u,a,b,rfl,h1,h2⟩:=h
 obtain ⟨t,ht,rfl,rfl,rfl,rfl⟩:=h2.lift
 exact ⟨⟨s,t,b⟩,rfl,h1,ht.2⟩
def CaR.lift (r:List P) (h:CaR r): ∃x:Ca,x.row=r/\x.ok:=by
 obtain ⟨m,s,ts,b,rfl,h1,h2⟩:=h
 obtain ⟨L,rfl,hL⟩:=h2.lift
 exact ⟨⟨s,L,b⟩,rfl,h1,hL⟩
def Ty.of_kty {gs:List LN} {t:Ty} (h:KTy gs [.i t.k,.str t.s,.i t.n,.sl 4 (Ty.encs t.a)]):t.kn gs:=by
 obtain ⟨u,e,g⟩:=h
 obtain rfl:u=t:=Ty.enc_inj (by rw [e];cases t;rfl)
 exact g
theorem Ty.of_ktys {gs:List LN} {l:List Ty} (h:KTys gs (Ty.encs l)): ∀t∈l,t.kn gs:=by
 obtain ⟨L,e,g⟩:=h
 obtain rfl:=Ty.encs_inj e
 clear e
 induction L with
 | nil=>exact fun _ h=>nomatch h
 | cons x L ih=>exact fun t ht=>(List.mem_cons.1 ht).elim (fun e=>e ▸ g.1) (ih g.2 t)
structure No.kn (x:No):Prop where
 nd:x.gs.Nodup
 fs: ∀f∈x.fs,f.t.kn x.gs
 cs: ∀c∈x.cs,∀t∈c.ts,t.kn x.gs
structure No.Good (x:No):Prop where
 ok:x.okn
 f:(x.fs.map Fi.s).Nodup
 c:(x.cs.map Ca.s).Nodup
 fl:x.fs.length<=90000
 cl:x.cs.length<=90000
 kn:x.kn
 df:x.d.fit
 dz:x.d.nz
def NoR.lift (r:List P) (h:NoR r): ∃x:No,x.row=r/\x.Good:=by
 obtain ⟨mm,s,kd,gs,b1,b2,fs,cs,o,n,k,m,z,s1,u,a,t,l,rfl,h1,h2,h3,h4,h5,h6,h7,h8,h9⟩:=h
 obtain ⟨L,rfl,hL⟩:=h3.lift FiR.lift
 obtain ⟨M,rfl,hM⟩:=h4.lift CaR.lift
 have h5z:=h5.2
 obtain ⟨x,hx,ex⟩:=h5.1.lift
 obtain ⟨h9,k1,k2,k3⟩:=h9
 rw [Yh] at h8 h9
 have e1:nmL (L.map Fi.row)=L.map Fi.s:=by simp only [nmL,YK];rfl
 have e2:nmL (M.map Ca.row)=M.map Ca.s:=by simp only [nmL,YK];rfl
 rw [e1] at h6
 rw [e2] at h7
 refine ⟨⟨s,kd,gs,b1,b2,L,M,x⟩,?_,⟨⟨h1,h2.1,hL,hM⟩,h2⟩,h6,h7,h8,h9,⟨k1,fun f hf=>Ty.of_kty (k2 _ (List.mem_map_of_mem hf)),fun c hc=>?_⟩,hx,Nd.nz_of (ex ▸ h5z)⟩
 rotate_left
 ·obtain ⟨s',ts,b',e,hk⟩:=k3 _ (List.mem_map_of_mem hc)
  simp only [Ca.row,Yf,P.sl.injEq,true_and,and_true] at e
  exact Ty.of_ktys (e.2.1 ▸ hk)
 simp only [Yf,P.int.injEq,P.str.injEq,P.sl.injEq,true_and,and_true] at ex⊢
 exact ex
def ReR.lift (r:List P) (h:ReR r): ∃x:Re,x.row=r/\x.ok:=by
 obtain ⟨m1,m2,o,s,k1,n1,k2,n2,s1,s2,a1,a2,rfl,h1,h3,h4⟩:=h
 obtain ⟨t,ht,rfl,rfl,rfl,rfl⟩:=h3.lift
 obtain ⟨v,hv,rfl,rfl,rfl,rfl⟩:=h4.lift
 exact ⟨⟨o,t,s,v⟩,rfl,h1,ht.2,hv.2⟩
structure Co.kn (x:Co):Prop where
 nd:x.gs.Nodup
 rs: ∀q∈x.rs,q.t.kn x.gs/\q.o.kn x.gs
 ts: ∀t∈x.ts,t.kn x.gs
def CoR.lift (r:List P) (h:CoR r): ∃x:Co,x.row=r/\x.okn/\x.kn:=by
 obtain ⟨m1,m2,s,k,n,u,a,gs,qs,ts,fs,rfl,h1,h2,h3,h4,h5,h6⟩:=h
 obtain ⟨t,ht,rfl,rfl,rfl,rfl⟩:=h2.lift
 obtain ⟨L,rfl,hL⟩:=h4.lift ReR.lift
 obtain ⟨M,rfl,hM⟩:=h5.lift
 obtain ⟨h6,k1,k2,k3⟩:=h6
 exact ⟨⟨s,t,gs,L,M,fs⟩,rfl,⟨⟨⟨h1,ht.2,h3.1,hL,hM,h6.1⟩,by cases t;exact ht.1.1.1⟩,h3⟩,k1,fun q hq=>⟨Ty.of_kty (k2 _ (List.mem_map_of_mem hq)).1,Ty.of_kty (k2 _ (List.mem_map_of_mem hq)).2⟩,Ty.of_ktys k3⟩
structure Fu.kn (x:Fu):Prop where
 nd:x.gs.Nodup
 rs: ∀q∈x.rs,q.t.kn x.gs/\q.o.kn x.gs
 ps: ∀p∈x.ps,p.t.kn x.gs
 r:x.r.kn x.gs
 e:x.e.kn x.gs
def FuR.lift (r:List P) (h:FuR r): ∃x:Fu,x.row=r/\x.okn/\(47∈x.s∨58∈x.s)/\x.kn/\123∉x.s/\x.b.fit/\x.b.nz:=by
 obtain ⟨mm,m1,m2,s,gs,qs,ps,k1,n1,k2,n2,s1,s2,a1,a2,o,n,k,m,z,s3,u,a,t,l,rfl,h1,h2,h3,h4,h5,h6,h7,k1,k2,k3,k4,k5⟩:=h
 obtain ⟨L,rfl,hL⟩:=h3.lift ReR.lift
 obtain ⟨M,rfl,hM⟩:=h4.lift PaR.lift
 obtain ⟨v,hv,rfl,rfl,rfl,rfl⟩:=h5.lift
 obtain ⟨w,hw,rfl,rfl,rfl,rfl⟩:=h6.lift
 have h7z:=h7.2
 obtain ⟨x,hx,ex⟩:=h7.1.lift
 refine ⟨⟨s,gs,L,M,v,w,x⟩,?_,⟨⟨h1.1,h2.1,hL,hM,hv.2,hw.2⟩,h2⟩,h1.2.1.imp And.left And.left,⟨k1,fun q hq=>?_,fun p hp=>?_,Ty.of_kty k4,Ty.of_kty k5⟩,h1.2.2,hx,Nd.nz_of (ex ▸ h7z)⟩
 ·simp only [Yf,P.int.injEq,P.str.injEq,P.sl.injEq,true_and,and_true] at ex⊢
  exact ex
 ·have h:=k2 _ (List.mem_map_of_mem hq)
  exact ⟨Ty.of_kty h.1,Ty.of_kty h.2⟩
 ·exact Ty.of_kty (k3 _ (List.mem_map_of_mem hp))
structure Mo.Good (m:Mo):Prop where
 n:Ok No.Good m.ns
 p:Ok Pr.ok m.ps
 c:Ok (fun x=>x.okn/\x.kn) m.cs
 f:Ok (fun x=>x.okn/\(47∈x.s∨58∈x.s)/\x.kn/\123∉x.s/\x.b.fit/\x.b.nz) m.fs
def Mo.Good.okn {m:Mo} (h:m.Good):m.okn:=⟨h.n.imp fun _ h=>h.ok,h.p,h.c.imp fun _ h=>h.1,h.f.imp fun _ h=>h.1⟩
def ZFr {noms pro cfs fns:LP} (h1:RowsOf NoR noms) (h2:RowsOf PrR pro) (h3:RowsOf CoR cfs) (h4:RowsOf FuR fns): ∃m:Mo,m.Good/\m.ns.map No.row=noms/\m.ps.map Pr.row=pro/\m.cs.map Co.row=cfs/\m.fs.map Fu.row=fns:=by
 obtain ⟨a,ea,ha⟩:=h1.lift NoR.lift
 obtain ⟨b,eb,hb⟩:=h2.lift PrR.lift
 obtain ⟨c,ec,hc⟩:=h3.lift CoR.lift
 obtain ⟨d,ed,hd⟩:=h4.lift FuR.lift
 exact ⟨⟨a,b,c,d⟩,⟨ha,hb,hc,hd⟩,ea,eb,ec,ed⟩
end Go.Am.Fe
end
section
namespace Go.Am.Fe
variable {S:SF} {Q:QF}
attribute [local simp] ZbO if_pos if_neg decide_eq_true decide_eq_false Yi Yj ZgF
def ZGx (l:List No):Wid 17 (l.map No.row):=fun r hr=>by obtain ⟨y,_,rfl⟩:=List.mem_map.1 hr;rfl
section
variable {e:Env} {k κ s:Nat} {c1 c2 c3:C}
def ZFX {l:LP} (h:0<l.length):Zpk k 0 κ 17 e (.a (.agg [.uniq 17 l,c1,c2,c3]))=(κ,.a (.agg (ZD7 l)))::(k,.a (.agg [.own ⟨true,κ,0⟩ 17 l.length,c1,c2,c3]))::e:=by
 cases l with
 | nil=>simp at h
 | cons r l=>simp [Zpk,A.setCell,Env.set,A.cells,ZD7]
def ZFY {l:LP} {n:Nat} (h:n=l.length) (h4:Wid 17 l):Zqs k 0 κ 17 e (.a (.agg [.own ⟨true,κ,0⟩ 17 n,c1,c2,c3])) (.a (.agg (ZD7 l)))=(k,.a (.agg [.uniq 17 l,c1,c2,c3]))::(κ,.undef)::e:=by
 subst h
 have h2:l.length*17<=(ZD7 l).length:=Nat.le_of_eq (by rw [ZD7,Yh,h4.flat])
 have h3:=ZEX h4 rfl
 simp [Zqs,A.cells,A.setCell,Env.set,h2,h3,ZEz h4]
def ZGq {l:LP}:pubG k 0 e (.a (.agg [.uniq 17 l,c1,c2,c3]))=(k,.a (.agg [.tip 17 l,c1,c2,c3]))::e:=rfl
end
end Go.Am.Fe
end
section
namespace Go.Am.Fe
end Go.Am.Fe
end
section
namespace Go.Am.Fe
section
variable {α β:Type} {w:Nat} {l:List α}
end
end Go.Am.Fe
end
section
namespace Go.Am.Fe
variable {A B D:List LN}
end Go.Am.Fe
end
section
namespace Go.Am.Fe
variable {S:SF} {Q:QF}
attribute [local simp] ZbO if_pos if_neg decide_eq_true decide_eq_false Yi Yj ZgF Ops.callv List.idxOf?_cons
def ZLV {N s:Nat} {z:LC} (hN:S N=some (.code (ZLI s z))) (hz:z.length=s) {f:Nat} {α:Type} {l:List α} {w:α->List P} (hl:l.length<=100000) (hs: ∀x∈l,(w x).length=s)
  {g:α->List P} (hg: ∀x∈l,(g x).length=s) (hp: ∀x∈l,∀Q,Q [.agg ((g x).map .p)] []->Gives S f [.agg ((w x).map .p)] [] Q) (hQ:Q [.one (.uniq s (l.map g))] []):
  Gives S N [.one (.p (.sl s (l.map w))),.one (.clo f [] [])] [] Q:=by
 refine .code hN rfl ?_
 simp(disch:=omega)[ZLI]
 refine Lp.rule (fun (j:Nat)=>[(1,.a (.one (.clo f [] []))),(5,.a (.one (.uniq s ((l.take j).map g)))),(9,.a (.one (.p (.sl s (l.map w))))),(10,.a (pi l.length)),(11,.a (pi j)),o9]) (fun j=>j<=l.length) (fun j=>l.length-j) (a₀:=0) Zs (Yd _) ?_
 intro j k1
 by_cases hj:j<l.length
 · have hm:=Yl hj
   have e:=hs _ hm
   have e':=hg _ hm
   have hd:z.drop (w l[j]).length=[]:=by simp [hz,e]
   have hd':z.drop s=[]:=by simp [hz]
   have hd2: ∀h:C->C,(z.map h).drop s=[]:=by simp [hz]
   simp(disch:=omega)[ZF4 e,hz,putR e hz,hd,cutR e]
   refine hp _ hm _ ?_
   simp(disch:=omega)[ZF4 e',hz,putR e' hz,hd',hd2,cutR e',e']
   exact RdN.mk (j+1) (by simp [Ym,Ya hj]) hj Zo
 · simp(disch:=omega)
   rw [Yg Ze]
   exact hQ
structure HC (S:SF):Prop where
 tableListApiFieldq:S ZHz=some (.code ZH3)
 tableCopyNominalX1:S ZHk=some (.code ZHB)
 tableListApiCaseq:S ZHG=some (.code ZIf)
 tableCopyNominalX2:S ZHl=some (.code ZHA)
 tableCopyNominal:S ZHu=some (.code ZHQ)
 tableListApiAssocq:S ZHC=some (.code ZH5)
 tableCopyProtocolX1:S ZHi=some (.code ZHy)
 tableListApiMethodq:S ZHx=some (.code ZHX)
 tableCopyProtocolX2:S ZHj=some (.code ZHs)
 tableCopyProtocol:S ZHq=some (.code ZHN)
 tableListApiProtocolq:S ZHn=some (.code ZHP)
 tableListApiConfq:S ZHH=some (.code ZIc)
 tableCopyConfq:S ZHJ=some (.code ZH7)
 tableListApiNominalq:S ZHt=some (.code ZHO)
 tableListApiFuncq:S ZHr=some (.code ZHD)
 tableCopy:S ZIL=some (.code ZIW)
def ZLd (H:HG S) (C:HC S) {x:Fi} (hx:x.ok) (hQ:Q [.agg (x.row.map .p)] []):Gives S ZHk [.agg (x.row.map .p)] [] Q:=by
 refine .code C.tableCopyNominalX1 rfl ?_
 simp(disch:=omega)[ZHB]
 refine ZEd H hx.2 ?_
 simp(disch:=omega)
 exact hQ
def ZKX (H:HG S) (C:HC S) {x:Ca} (hx:x.ok) (hQ:Q [.agg (x.row.map .p)] []):Gives S ZHl [.agg (x.row.map .p)] [] Q:=by
 refine .code C.tableCopyNominalX2 rfl ?_
 simp(disch:=omega)[ZHA]
 refine ZFG H ⟨hx.2.1,hx.2.2⟩ ?_
 simp(disch:=omega)
 exact hQ
def ZKZ (H:HG S) (C:HC S) {x:No} (hx:x.ok) (hd:x.d.fit) (hQ:Q [.agg (x.row.map .p)] []):Gives S ZHu [.agg (x.row.map .p)] [] Q:=by
 obtain ⟨_,h1,h2,h3⟩:=hx
 refine .code C.tableCopyNominal rfl ?_
 simp(disch:=omega)[ZHQ]
 refine ZFs H h1 ?_
 simp(disch:=omega)
 refine ZEO H _ _ _ (Yz _) hd ?_
 simp(disch:=omega)
 refine ZFJ C.tableListApiFieldq rfl h2.1 (fun _ _=>rfl) Pass.nil (g:=Fi.row) (fun _ _=>rfl) (fun y hy Q hQ=>ZLd H C (h2.2 y hy) hQ) ?_
 simp(disch:=omega)
 refine ZFJ C.tableListApiCaseq rfl h3.1 (fun _ _=>rfl) Pass.nil (g:=Ca.row) (fun _ _=>rfl) (fun y hy Q hQ=>ZKX H C (h3.2 y hy) hQ) ?_
 simp(disch:=omega)
 exact hQ
def ZLb (H:HG S) (C:HC S) {x:As} (hx:x.ok) (hQ:Q [.agg (x.row.map .p)] []):Gives S ZHi [.agg (x.row.map .p)] [] Q:=by
 refine .code C.tableCopyProtocolX1 rfl ?_
 simp(disch:=omega)[ZHy]
 refine ZFs H hx.2 ?_
 simp(disch:=omega)
 exact hQ
def ZLW {e:Env} {k:Nat} {l:LP} {c0 c2 c3 c4 c5 c6 c7 c8 c9:C}:pubG k 1 e (.a (.agg [c0,.uniq 6 l,c2,c3,c4,c5,c6,c7,c8,c9]))=(k,.a (.agg [c0,.tip 6 l,c2,c3,c4,c5,c6,c7,c8,c9]))::e:=rfl
def ZK8 (H:HG S) (C:HC S) {x:Me} (hx:x.ok) (hQ:Q [.agg (x.row.map .p)] []):Gives S ZHj [.agg (x.row.map .p)] [] Q:=by
 obtain ⟨_,h1,h2,h3⟩:=hx
 refine .code C.tableCopyProtocolX2 rfl ?_
 simp(disch:=omega)[ZHs]
 refine ZFB H h1 ?_
 simp(disch:=omega)
 refine ZEd H h2 ?_
 simp(disch:=omega)
 refine ZEd H h3 ?_
 simp(disch:=omega)[ZLW]
 exact hQ
def ZK6 (H:HG S) (C:HC S) {x:Pr} (hx:x.ok) (hQ:Q [.agg (x.row.map .p)] []):Gives S ZHq [.agg (x.row.map .p)] [] Q:=by
 obtain ⟨_,h1,h2⟩:=hx
 refine .code C.tableCopyProtocol rfl ?_
 simp(disch:=omega)[ZHN]
 refine ZFJ C.tableListApiAssocq rfl h1.1 (fun _ _=>rfl) Pass.nil (g:=As.row) (fun _ _=>rfl) (fun y hy Q hQ=>ZLb H C (h1.2 y hy) hQ) ?_
 simp(disch:=omega)
 refine ZFJ C.tableListApiMethodq rfl h2.1 (fun _ _=>rfl) Pass.nil (g:=Me.row) (fun _ _=>rfl) (fun y hy Q hQ=>ZK8 H C (h2.2 y hy) hQ) ?_
 simp(disch:=omega)
 exact hQ
def ZK5 (H:HG S) (C:HC S) {x:Co} (hx:x.ok) (hQ:Q [.agg (x.row.map .p)] []):Gives S ZHJ [.agg (x.row.map .p)] [] Q:=by
 obtain ⟨_,h1,h2,h3,h4,h5⟩:=hx
 refine .code C.tableCopyConfq rfl ?_
 simp(disch:=omega)[ZH7]
 refine ZEd H h1 ?_
 simp(disch:=omega)
 refine ZFs H h2 ?_
 simp(disch:=omega)
 refine ZFE H h3 ?_
 simp(disch:=omega)
 refine ZFG H h4 ?_
 simp(disch:=omega)
 refine ZFs H h5 ?_
 simp(disch:=omega)
 exact hQ
def ZKE (H:HG S) (C:HC S) {l:List Fu} (hl:Ok Fu.ok' l) (hQ:Q [.one (.uniq 22 (l.map Fu.row))] []):Gives S ZHr [.one (.l 22 (l.map Fu.row)),.one (.clo ZhE [] [])] [] Q:=by
 have g:=hl.1
 refine .code C.tableListApiFuncq rfl ?_
 simp(disch:=omega)[ZHD]
 refine Lp.rule (fun (j:Nat)=>[(1,.a (.one (.clo ZhE [] []))),(5,.a (.one (.uniq 22 ((l.map Fu.row).take j)))),(9,.a (.one (.l 22 (l.map Fu.row)))),(10,.a (pi l.length)),(11,.a (pi j)),o9]) (fun j=>j<=l.length) (fun j=>l.length-j) (a₀:=0) Zs (Yd _) ?_
 intro j k1
 by_cases hj:j<l.length
 ·simp(disch:=omega)
  refine ZGi H (hl.get hj) ?_
  simp(disch:=omega)[ZGs,Fu.uniq]
  exact RdN.mk (j+1) (by simp [Ym,Ya hj]) hj Zo
 ·simp(disch:=omega)
  rw [Yg Ze]
  exact hQ
def ZLC (H:HG S) (C:HC S) {m:Mo} (hm:m.okn) (h1: ∀x∈m.ns,x.d.fit) (h2: ∀x∈m.fs,x.b.fit) (hQ:Q [.agg [.uniq 17 (m.ns.map No.row),.l 3 (m.ps.map Pr.row),.l 9 (m.cs.map Co.row),.uniq 22 (m.fs.map Fu.row)]] []):Gives S ZIL [.agg m.cs'] [] Q:=by
 refine .code C.tableCopy rfl ?_
 simp(disch:=omega)[ZIW]
 refine ZLV C.tableListApiNominalq rfl hm.n.1 (fun _ _=>rfl) (g:=No.row) (fun _ _=>rfl) (fun x hx Q hQ=>ZKZ H C (hm.n.2 x hx).1 (h1 x hx) hQ) ?_
 simp(disch:=omega)
 refine ZFJ C.tableListApiProtocolq rfl hm.p.1 (fun _ _=>rfl) Pass.nil (g:=Pr.row) (fun _ _=>rfl) (fun x hx Q hQ=>ZK6 H C (hm.p.2 x hx) hQ) ?_
 simp(disch:=omega)
 refine ZFJ C.tableListApiConfq rfl hm.c.1 (fun _ _=>rfl) Pass.nil (g:=Co.row) (fun _ _=>rfl) (fun x hx Q hQ=>ZK5 H C (hm.c.2 x hx).1.1 hQ) ?_
 simp(disch:=omega)
 refine ZKE H C ⟨hm.f.1,fun x hx=>⟨(hm.f.2 x hx).1,h2 x hx⟩⟩ ?_
 simp(disch:=omega)
 exact hQ
end Go.Am.Fe
end
section
namespace Go.Am.Fe
def No.bare (x:No):No:=⟨x.s,x.k,x.gs,x.m,x.f,x.fs,x.cs,.zero⟩
def Fu.bare (f:Fu):Fu:=⟨f.s,f.gs,f.rs,f.ps,f.r,f.e,.zero⟩
def Mo.bare (m:Mo):Mo:=⟨m.ns.map No.bare,m.ps,m.cs,m.fs.map Fu.bare⟩
def Mo.bare_okn {m:Mo} (h:m.okn):m.bare.okn:=⟨h.n.map fun _ h=>h,h.p,h.c,h.f.map fun _ h=>h⟩
def Mo.Good.nobrace {m:Mo} (h:m.Good): ∀f∈m.fs,123∉f.s:=fun f hf=>(h.f.2 f hf).2.2.2.1
end Go.Am.Fe
end
section
namespace Go.Am.Fe
variable {S:SF} {Q:QF}
attribute [local simp] ZbO if_pos if_neg decide_eq_true decide_eq_false Yi Yj ZgF Ops.callv List.idxOf?_cons
section
variable {e:Env} {k κ s:Nat} {c0 c1 c2 c3:C}
def ZLs {l:LP} (h:0<l.length):Zpk k 3 κ 22 e (.a (.agg [c0,c1,c2,.uniq 22 l]))=(κ,.a (.agg (ZD7 l)))::(k,.a (.agg [c0,c1,c2,.own ⟨true,κ,0⟩ 22 l.length]))::e:=by
 cases l with
 | nil=>simp at h
 | cons r l=>simp [Zpk,A.setCell,Env.set,A.cells,ZD7]
def ZLr {l:LP} {n:Nat} (h:n=l.length) (h4:Wid 22 l):Zqs k 3 κ 22 e (.a (.agg [c0,c1,c2,.own ⟨true,κ,0⟩ 22 n])) (.a (.agg (ZD7 l)))=(k,.a (.agg [c0,c1,c2,.uniq 22 l]))::(κ,.undef)::e:=by
 subst h
 have h2:l.length*22<=(ZD7 l).length:=Nat.le_of_eq (by rw [ZD7,Yh,h4.flat])
 have h3:=ZEX h4 rfl
 simp [Zqs,A.cells,A.setCell,Env.set,h2,h3,ZEz h4]
def ZL6 {l:LP}:pubG k 3 e (.a (.agg [c0,c1,c2,.uniq 22 l]))=(k,.a (.agg [c0,c1,c2,.tip 22 l]))::e:=rfl
def ZLS {x:P}:pubG k 3 e (.a (.agg [c0,c1,c2,.p x]))=e:=rfl
end
def ZK1 {κ s n:Nat}:C.mapR (R.down (some 0) [κ]) (.own ⟨true,κ,0⟩ s n)=some (.own ⟨false,0,0⟩ s n):=by simp [C.mapR,R.down,List.idxOf?_cons]
def ZLN {κ s n:Nat}:C.mapR (R.up (some 0) [κ]) (.own ⟨false,0,0⟩ s n)=some (.own ⟨true,κ,0⟩ s n):=by simp [C.mapR,R.up]
def ZKN {φ:R->Option R}: ∀l:List P,Zl9 φ (l.map C.p)=some (l.map C.p)
 | []=>rfl
 | x::l=>by simp [Zl9,C.mapR,ZKN l]
def ZKa {φ:R->Option R} {l:LP}:Zl9 φ (ZD7 l)=some (ZD7 l):=ZKN _
def ZKA {l:LP}:List.map C.lone (ZD7 l)=ZD7 l:=by rw [ZD7,YK];exact YC fun _ _=>rfl
def upto {α:Type} (f:α->α) (l:List α) (j:Nat):List α:=(l.map f).take j++l.drop j
def ZIl {α:Type} {f:α->α} {l:List α} {j:Nat} (h:j<=l.length):(upto f l j).length=l.length:=by simp [upto];omega
def ZJJ {α:Type} {f:α->α} {l:List α}:upto f l 0=l:=by simp [upto]
def ZJW {α:Type} {f:α->α} {l:List α}:upto f l l.length=l.map f:=by
 unfold upto
 rw [Yg Zs,List.drop_length,List.append_nil]
def ZKq {α:Type} {f:α->α} {l:List α} {j:Nat} (h:j<l.length):(upto f l j)[j]'(by rw [ZIl Zo];exact h)=l[j]:=by
 have h0:(upto f l j)[j]? =some l[j]:=by
  rw [upto,Yo (by rw [List.length_take];omega),List.length_take,Yh,Nat.min_eq_left Zo,Nat.sub_self,List.getElem?_drop,Nat.add_zero,Ya h]
 rw [Ya (by rw [ZIl Zo];exact h)] at h0
 exact Option.some.inj h0
def ZJ0 {α:Type} {f:α->α} {l:List α} {j:Nat} (h:j<l.length):(upto f l j).set j (f l[j])=upto f l (j+1):=by
 unfold upto
 rw [List.set_append_right _ _ (by rw [List.length_take];omega),List.length_take,Yh,Nat.min_eq_left Zo,Nat.sub_self,List.drop_eq_getElem_cons h,List.set_cons_zero,Ym,Yn,Ya h]
 simp
def ZKy (l:List Fu):Wid 22 (l.map Fu.row):=fun r hr=>by obtain ⟨y,_,rfl⟩:=List.mem_map.1 hr;rfl
def ZLi {l:List No} {j:Nat} (h:j<l.length):List.take (j*17+7) (ZD7 ((upto No.bare l j).map No.row))++C.i 0::C.s []::C.i 0::C.i 0::C.s []::C.i 0::C.l 4 []::C.l 4 []::C.l 10 []::C.i 0::List.drop (j*17+7+10) (ZD7 ((upto No.bare l j).map No.row))=ZD7 ((upto No.bare l (j+1)).map No.row):=by
 have gz:=ZIl (f:=No.bare) (Nat.le_of_lt h)
 have gy:=ZKq (f:=No.bare) h
 have hm:(j+1)*17<=l.length*17:=YI _ h
 have gf:(ZD7 ((upto No.bare l j).map No.row)).length=l.length*17:=by rw [ZD7,Yh,(ZGx _).flat,Yh,gz]
 rw [<-ZJ0 h,List.map_set]
 have:=ZFq (ZGx (upto No.bare l j)) (j:=j) (o:=7) (xs:=Nd.zero.row) (by rw [Yh];omega) Zs
 rw [put,if_pos (by rw [gf];simp;omega)] at this
 simp only [Ye] at this
 have e2:((upto No.bare l j).map No.row)[j]'(by rw [Yh];omega)=l[j].row:=by rw [List.getElem_map,gy]
 rw [e2,Yu] at this
 exact this
def ZLY {l:List Fu} {j:Nat} (h:j<l.length):List.take (j*22+12) (ZD7 ((upto Fu.bare l j).map Fu.row))++C.i 0::C.s []::C.i 0::C.i 0::C.s []::C.i 0::C.l 4 []::C.l 4 []::C.l 10 []::C.i 0::List.drop (j*22+12+10) (ZD7 ((upto Fu.bare l j).map Fu.row))=ZD7 ((upto Fu.bare l (j+1)).map Fu.row):=by
 have gz:=ZIl (f:=Fu.bare) (Nat.le_of_lt h)
 have gy:=ZKq (f:=Fu.bare) h
 have hm:(j+1)*22<=l.length*22:=YI _ h
 have gf:(ZD7 ((upto Fu.bare l j).map Fu.row)).length=l.length*22:=by rw [ZD7,Yh,(ZKy _).flat,Yh,gz]
 rw [<-ZJ0 h,List.map_set]
 have:=ZFq (ZKy (upto Fu.bare l j)) (j:=j) (o:=12) (xs:=Nd.zero.row) (by rw [Yh];omega) Zs
 rw [put,if_pos (by rw [gf];simp;omega)] at this
 simp only [Ye] at this
 have e2:((upto Fu.bare l j).map Fu.row)[j]'(by rw [Yh];omega)=l[j].row:=by rw [List.getElem_map,gy]
 rw [e2,Yu] at this
 exact this
def ZMn (H:HG S) (L:HC S) (HO:S ZIj=some (.code ZIE)) {m:Mo} (hm:m.okn) (h1: ∀x∈m.ns,x.d.fit) (hf:m.fs=[])
  (HD: ∀Q:QF,Q [.one (.l 22 [])] []->Gives S ZG8 [.one (.l 22 []),.one (.clo ZHF [] [])] [] Q)
  (hQ:Q [.agg m.bare.cs'] []):Gives S ZIj [.agg m.cs'] [] Q:=by
 obtain ⟨ns,pr,cs,fs⟩:=m
 dsimp only at hf h1
 subst hf
 have hn:ns.length<=100000:=hm.n.1
 refine .code HO rfl ?_
 simp(disch:=omega)[ZIE,ofC]
 refine ZLC H L (m:=⟨ns,pr,cs,[]⟩) hm h1 Zs ?_
 simp(disch:=omega)
 refine Lp.rule (fun (j:Nat)=>[fR 2,fR 3,(10,.a (pi ns.length)),(11,.a (pi j)),o9,(10002,.a (aM0)),(10003,.a (.agg [.uniq 17 ((upto No.bare ns j).map No.row),.l 3 (pr.map Pr.row),.l 9 (cs.map Co.row),.uniq 22 []]))]) (fun j=>j<=ns.length) (fun j=>ns.length-j) (a₀:=0) (by simp [ZJJ]) (Yd _) ?_
 intro j k1
 by_cases hj:j<ns.length
 ·have gz:=ZIl (f:=No.bare) k1
  have gp:=ZLi hj
  have gl:(ZD7 ((upto No.bare ns j).map No.row)).length=ns.length*17:=by rw [ZD7,Yh,(ZGx _).flat,Yh,gz]
  have hmm:(j+1)*17<=ns.length*17:=YI _ hj
  have gz2:=ZIl (f:=No.bare) hj
  have gz3:((upto No.bare ns j).map No.row).length=ns.length:=by rw [Yh,gz]
  have gz4:((upto No.bare ns (j+1)).map No.row).length=ns.length:=by rw [Yh,gz2]
  simp (disch:=first|omega|exact ZGx _) [ZFX,ZEl,ZEs,gz,gl,gp,ZFY,gz2]
  exact RdN.mk (j+1) rfl hj Zo
 obtain rfl:j=ns.length:=by omega
 rw [ZJW]
 simp(disch:=omega)[ZL6]
 refine HD _ ?_
 simp(disch:=omega)
 refine Lp.rule (fun (_:Nat)=>[fR 2,fR 3,(27,.a (pi 0)),(28,.a (pi 0)),o9,(10002,.a (aM0)),(10003,.a (.agg [.uniq 17 ((ns.map No.bare).map No.row),.l 3 (pr.map Pr.row),.l 9 (cs.map Co.row),.l 22 []]))]) (fun _=>True) (fun _=>0) (a₀:=0) Zs trivial ?_
 intro j k1
 simp(disch:=omega)[ZLS,ZGq]
 rw [<-YK]
 exact hQ
def ZMc (H:HG S) (L:HC S) (HO:S ZIj=some (.code ZIJ)) {m:Mo} (hm:m.okn) (h1: ∀x∈m.ns,x.d.fit) (h2: ∀x∈m.fs,x.b.fit) (hf:m.fs≠[])
  (HD: ∀Q:QF,Q [.one (.own ⟨false,0,0⟩ 22 m.fs.length)] [ZD7 (m.fs.map Fu.row)]->Gives S ZG8 [.one (.own ⟨false,0,0⟩ 22 m.fs.length),.one (.clo ZHF [] [])] [ZD7 (m.fs.map Fu.row)] Q)
  (hQ:Q [.agg m.bare.cs'] []):Gives S ZIj [.agg m.cs'] [] Q:=by
 have hn:=hm.n.1
 have hl:=hm.f.1
 have hf0:0<m.fs.length:=List.length_pos_iff.2 hf
 refine .code HO rfl ?_
 simp(disch:=omega)[ZIJ,ofC]
 refine ZLC H L hm h1 h2 ?_
 simp(disch:=omega)
 refine Lp.rule (fun (j:Nat)=>[fR 2,fR 3,(10,.a (pi m.ns.length)),(11,.a (pi j)),o9,(10002,.a (aM0)),(10003,.a (.agg [.uniq 17 ((upto No.bare m.ns j).map No.row),.l 3 (m.ps.map Pr.row),.l 9 (m.cs.map Co.row),.uniq 22 (m.fs.map Fu.row)]))]) (fun j=>j<=m.ns.length) (fun j=>m.ns.length-j) (a₀:=0) (by simp [ZJJ]) (Yd _) ?_
 intro j k1
 by_cases hj:j<m.ns.length
 ·have gz:=ZIl (f:=No.bare) k1
  have gp:=ZLi hj
  have gl:(ZD7 ((upto No.bare m.ns j).map No.row)).length=m.ns.length*17:=by rw [ZD7,Yh,(ZGx _).flat,Yh,gz]
  have hmm:(j+1)*17<=m.ns.length*17:=YI _ hj
  have gz2:=ZIl (f:=No.bare) hj
  have gz3:((upto No.bare m.ns j).map No.row).length=m.ns.length:=by rw [Yh,gz]
  have gz4:((upto No.bare m.ns (j+1)).map No.row).length=m.ns.length:=by rw [Yh,gz2]
  simp (disch:=first|omega|exact ZGx _) [ZFX,ZEl,ZEs,gz,gl,gp,ZFY,gz2]
  exact RdN.mk (j+1) rfl hj Zo
 obtain rfl:j=m.ns.length:=by omega
 rw [ZJW]
 have gm:(m.fs.map Fu.row).length=m.fs.length:=Yh _
 simp(disch:=omega)[ZLs,ZEl,ZEs,ZK1,ZKa,ZKA]
 refine HD _ ?_
 simp (disch:=first|omega|exact ZKy _) [ZEl,ZEs,ZLr,ZLN,ZKa]
 refine Lp.rule (fun (j:Nat)=>[fR 2,fR 3,(27,.a (pi m.fs.length)),(28,.a (pi j)),o9,(10002,.a (aM0)),(10003,.a (.agg [.uniq 17 ((m.ns.map No.bare).map No.row),.l 3 (m.ps.map Pr.row),.l 9 (m.cs.map Co.row),.uniq 22 ((upto Fu.bare m.fs j).map Fu.row)]))]) (fun j=>j<=m.fs.length) (fun j=>m.fs.length-j) (a₀:=0) (by simp [ZJJ]) (Yd _) ?_
 intro j k1
 by_cases hj:j<m.fs.length
 ·have gz:=ZIl (f:=Fu.bare) k1
  have gp:=ZLY hj
  have gl:(ZD7 ((upto Fu.bare m.fs j).map Fu.row)).length=m.fs.length*22:=by rw [ZD7,Yh,(ZKy _).flat,Yh,gz]
  have hmm:(j+1)*22<=m.fs.length*22:=YI _ hj
  have gz2:=ZIl (f:=Fu.bare) hj
  have gz3:((upto Fu.bare m.fs j).map Fu.row).length=m.fs.length:=by rw [Yh,gz]
  have gz4:((upto Fu.bare m.fs (j+1)).map Fu.row).length=m.fs.length:=by rw [Yh,gz2]
  simp (disch:=first|omega|exact ZKy _) [ZLs,ZEl,ZEs,gz,gl,gp,ZLr,gz2]
  exact RdN.mk (j+1) rfl hj Zo
 obtain rfl:j=m.fs.length:=by omega
 rw [ZJW]
 simp(disch:=omega)[ZL6,ZGq]
 rw [<-YK,<-YK]
 exact hQ
end Go.Am.Fe
end
section
namespace Go.Am.Fe
variable {S:SF} {Q:QF}
attribute [local simp] ZbO if_pos if_neg decide_eq_true decide_eq_false Yi Yj ZgF
end Go.Am.Fe
end
