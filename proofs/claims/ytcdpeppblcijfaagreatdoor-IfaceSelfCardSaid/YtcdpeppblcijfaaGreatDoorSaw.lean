/- Part. -/
import Derived.Test.YtcdpeppblcijfaaGreatDoorSav
set_option maxRecDepth 999999
set_option maxHeartbeats 0
set_option linter.all false
section
namespace Go.Am.Fe
variable {S:SF} {Q:QF}
attribute [local simp] ZbO if_pos if_neg decide_eq_true decide_eq_false Yi Yj ZgF Ops.callv List.idxOf?_cons
structure Mo.okn (m:Mo):Prop where
 n:Ok No.okn m.ns
 p:Ok Pr.ok m.ps
 c:Ok Co.okn m.cs
 f:Ok Fu.okn m.fs
def Ok.imp {α:Type} {p q:α->Prop} {l:List α} (h:Ok p l) (hf: ∀x,p x->q x):Ok q l:=⟨h.1,fun x hx=>hf x (h.2 x hx)⟩
def Mo.lacks (m:Mo) (f:Fu):Prop:= ∀g∈m.fs,¬f.ent g
noncomputable def Mo.beside (m:Mo) (f:Fu):Bool:=m.fs.any fun g=>dq (bse g.s=bse f.s/\g.ps.length=f.ps.length)
noncomputable def ZEb (m1 m2:Mo) (j:Nat):List Rz:=((m1.free.take j).filter fun f=>dq (m2.lacks f)).map fun f=>(7,ZDJ [f.s])
noncomputable def ZEa (m1 m2:Mo) (j:Nat):List Rz:=((m2.free.take j).filter fun f=>dq (m1.lacks f) && m1.beside f).map fun f=>(8,ZDJ [f.s])
def ZFl {m1 m2:Mo} {j:Nat} (hj:j<m1.free.length) (h:m2.lacks m1.free[j]):ZEb m1 m2 (j+1)=ZEb m1 m2 j++[(7,ZDJ [m1.free[j].s])]:=by
 rw [ZEb,ZD4 hj (ZDz h),YB];rfl
def ZFR {m1 m2:Mo} {j:Nat} (hj:j<m1.free.length) (h: ¬m2.lacks m1.free[j]):ZEb m1 m2 (j+1)=ZEb m1 m2 j:=by
 rw [ZEb,ZEc hj (ZDy h)];rfl
def ZFV {m1 m2:Mo} {i j:Nat} (h:i<=j):(ZEb m1 m2 i).length<=(ZEb m1 m2 j).length:=by
 rw [ZEb,ZEb,Yh,Yh];exact ZDK h
def ZFj {m1 m2:Mo} {j:Nat} (hj:j<m2.free.length) (h:m1.lacks m2.free[j]) (h':m1.beside m2.free[j]=true):ZEa m1 m2 (j+1)=ZEa m1 m2 j++[(8,ZDJ [m2.free[j].s])]:=by
 rw [ZEa,ZD4 hj (by rw [ZDz h,h'];rfl),YB];rfl
def ZE1 {m1 m2:Mo} {j:Nat} (hj:j<m2.free.length) (h:m1.lacks m2.free[j]->m1.beside m2.free[j]=false):ZEa m1 m2 (j+1)=ZEa m1 m2 j:=by
 rw [ZEa,ZEc hj (by
  by_cases hl:m1.lacks m2.free[j]
  ·rw [h hl,Bool.and_false]
  ·rw [ZDy hl,Bool.false_and])];rfl
def ZFK {m1 m2:Mo} {i j:Nat} (h:i<=j):(ZEa m1 m2 i).length<=(ZEa m1 m2 j).length:=by
 rw [ZEa,ZEa,Yh,Yh];exact ZDK h
noncomputable def ZD1 (m1 m2:Mo):List Rz:=
 (ZDP No.s m1.ns).flatMap (No.rs m2)++(ZDP Pr.s m1.ps).flatMap (Pr.rs m2)++(ZDP Co.nm m1.cs).flatMap (Co.rsn m2)++ZEb m1 m2 m1.free.length++ZEa m1 m2 m2.free.length++
  (ZDP Pr.s m2.ps).flatMap (Pr.chosen m1)++(ZDP No.s m1.ns).flatMap (No.chosen m1 m2)++(ZDP Co.nm m2.cs).flatMap (Co.news m1)
def ZEw {F:ZaQ} {s:Nat} {rows:LP} {h n:Int} (h0:0<=h) (h1:h<=rows.length) (h2:h<=n) (h3:n<=rows.length):ZaI F (.slice s false true true) [.a (.one (.p (.sl s rows))),.a (.one (.i h)),.a (.one (.i n))]=some [.a (.one (.p (.sl s (rows.take h.toNat))))]:=by
 have e1:h.toNat<=rows.length:=by omega
 have e2:((h.toNat:Nat):Int)<=n:=by omega
 simp only [ZaI,Zh5,C.rows,ZbX,Zme,h0,e1,if_true,Yw,if_false,Yd,true_and,e2,h3,one,List.drop_zero]
def ZFH (H:HG S) {m1 m2:Mo} (h1:m1.okn) (h2:m2.okn) (hb:(ZD1 m1 m2).length<68719476736) (hQ:Q [.one (.p (.sl 2 ((rzs (ZD1 m1 m2)).take 100)))] []):Gives S Zf7 [.agg m1.cs',.agg m2.cs'] [] Q:=by
 have n1:=h1.n.imp fun x hx=>hx.1
 have n2:=h2.n.imp fun x hx=>hx.1
 refine .code H.ifaceReasons rfl ?_
 simp(disch:=omega)[Zl0,cloR]
 unfold ZD1 at hb hQ
 refine ZFb (N:=Zci) (s:=17) H.ifaceFirstApiNominalq rfl (first:=[⟨false,0,0⟩]) (caps:=[]) (st:=fun b=>[RS m1 m2 b]) (K:=1) (f:=No.s) (R:=No.rs m2) h1.n.1 (fun _ _=>rfl) (fun b=>Pass.dat rfl) (fun _=>rfl) (by simp [PassR]) PassR.nil (fun x hx b Q hQ=>?_) (fun x hx b Q hb hQ=>?_) (b:=[]) ?_ ?_
 ·refine .code H.ifaceNominalNameq rfl ?_
  simp(disch:=omega)[ZiM]
  exact hQ
 ·obtain ⟨i,hi,rfl,_⟩:=ZDI hx
  simp [ZDB]
  exact ZFM H h2.n (h1.n.get hi) hb hQ
 ·simp only [YE,List.length_nil] at hb⊢;omega
 rw [YO]
 generalize (ZDP No.s m1.ns).flatMap (No.rs m2)=b1 at hb hQ⊢
 simp(disch:=omega)[cloR]
 refine ZFb (N:=Zb4) (s:=3) H.ifaceFirstApiProtocolq rfl (first:=[]) (caps:=[⟨false,0,0⟩,⟨false,1,0⟩]) (st:=st3 m1 m2 m2) (K:=3) (f:=Pr.s) (R:=Pr.rs m2) h1.p.1 (fun _ _=>rfl) (fun b=>ZEn) (fun _=>rfl) PassR.nil (by simp [PassR]) (fun x hx b Q hQ=>?_) (fun x hx b Q hb hQ=>?_) (b:=b1) ?_ ?_
 ·refine .code H.ifaceProtocolNameq rfl ?_
  simp(disch:=omega)[Zh8]
  exact hQ
 ·obtain ⟨i,hi,rfl,_⟩:=ZDI hx
  simp [ZDB]
  exact ZGV H h2.p (h1.p.get hi) hb hQ
 ·simp only [YE] at hb⊢;omega
 generalize b1++(ZDP Pr.s m1.ps).flatMap (Pr.rs m2)=b2 at hb hQ⊢
 simp(disch:=omega)[cloR]
 refine ZFb (N:=ZcV) (s:=9) H.ifaceFirstApiConfq rfl (first:=[]) (caps:=[⟨false,0,0⟩,⟨false,1,0⟩]) (st:=st3 m1 m2 m2) (K:=3) (f:=Co.nm) (R:=Co.rsn m2) h1.c.1 (fun _ _=>rfl) (fun b=>ZEn) (fun _=>rfl) PassR.nil (by simp [PassR]) (fun x hx b Q hQ=>ZEA H (h1.c.2 x hx).1 ZEn hQ) (fun x hx b Q hb hQ=>?_) (b:=b2) ?_ ?_
 ·obtain ⟨i,hi,rfl,_⟩:=ZDI hx
  simp [ZDB]
  exact ZGS H h2.c (h1.c.get hi) hb hQ
 ·simp only [YE] at hb⊢;omega
 generalize b2++(ZDP Co.nm m1.cs).flatMap (Co.rsn m2)=b3 at hb hQ⊢
 simp(disch:=omega)
 refine ZGu H h1.f.1 (h1.c.imp fun x hx=>hx.1.1) ?_
 have f1:m1.free.length<=100000:=Yy Mo.freeTo_len h1.f.1
 simp(disch:=omega)
 refine Lp.rule (fun (j:Nat)=>[fR 2,fR 3,fR 5,(36,.a (.one (.l 22 (m1.free.map Fu.row)))),(37,.a (pi m1.free.length)),(38,.a (pi j)),o9,
  (10002,.a (.agg m1.cs')),(10003,.a (.agg m2.cs')),(10005,.a (.agg [.ref ⟨true,10020,0⟩])),(10020,.a (.agg (RS m1 m2 (b3++ZEb m1 m2 j))))]) (fun j=>j<=m1.free.length) (fun j=>m1.free.length-j) (a₀:=0) (by simp [ZEb]) (Yd _) ?_
 intro j k1
 by_cases hj:j<m1.free.length
 ·obtain ⟨i,hi,_,hfi⟩:=Mo.free_mem (Yl hj)
  have hok:=h1.f.get hi
  rw [hfi] at hok
  have hok1:=hok.1.1.1
  have hle:=ZFV (m1:=m1) (m2:=m2) (i:=j+1) hj
  simp(disch:=omega)
  refine ZF1 H (m:=m2) h2.f hok (fun h=>?_) (fun i' hi' h h'=>?_)
  ·have hy:=ZFl (m2:=m2) hj h
   simp(disch:=omega)
   refine ZEi H (l:=b3++ZEb m1 m2 j) (ns:=[m1.free[j].s]) Zs Ze (by rw [Yu,<-hy];simp at hb⊢;omega) ?_
   simp(disch:=omega)
   exact RdN.mk (j+1) (by rw [hy];simp) hj Zo
  ·have hy:=ZFR (m2:=m2) hj fun hl=>hl _ (Yl hi') h
   simp(disch:=omega)
   exact RdN.mk (j+1) (by rw [hy];simp) hj Zo
 ·rw [show j=m1.free.length by omega]
  generalize b3++ZEb m1 m2 m1.free.length=b4 at hb hQ⊢
  simp(disch:=omega)
  refine ZGu H h2.f.1 (h2.c.imp fun x hx=>hx.1.1) ?_
  have f2:m2.free.length<=100000:=Yy Mo.freeTo_len h2.f.1
  simp(disch:=omega)
  refine Lp.rule (fun (j:Nat)=>[fR 2,fR 3,fR 5,(57,.a (.one (.l 22 (m2.free.map Fu.row)))),(58,.a (pi m2.free.length)),(59,.a (pi j)),o9,
   (10002,.a (.agg m1.cs')),(10003,.a (.agg m2.cs')),(10005,.a (.agg [.ref ⟨true,10020,0⟩])),(10020,.a (.agg (RS m1 m2 (b4++ZEa m1 m2 j))))]) (fun j=>j<=m2.free.length) (fun j=>m2.free.length-j) (a₀:=0) (by simp [ZEa]) (Yd _) ?_
  intro j k1
  by_cases hj:j<m2.free.length
  ·obtain ⟨i,hi,_,hfi⟩:=Mo.free_mem (Yl hj)
   have hok:=h2.f.get hi
   rw [hfi] at hok
   have hok1:=hok.1.1.1
   have hle:=ZFK (m1:=m1) (m2:=m2) (i:=j+1) hj
   simp(disch:=omega)
   refine ZF1 H (m:=m1) h1.f hok (fun h=>?_) (fun i' hi' h h'=>?_)
   ·simp(disch:=omega)
    refine ZFO H Zo ?_
    simp(disch:=omega)[cloR]
    refine ZFa H.slicesContainsFuncLApiFuncApiFunc H.slicesIndexFuncLApiFuncApiFunc h1.f.1 (fun _ _=>rfl) (os:=[(m2.free[j].row.map .p),[.p (.str (bse m2.free[j].s))]]) (caps:=[⟨false,1,0⟩,⟨false,0,0⟩]) (p:=fun g=>dq (bse g.s=bse m2.free[j].s/\g.ps.length=m2.free[j].ps.length)) (Pass.dat rfl) PassR.nil (by simp [PassR]) (fun g hg Q hQ=>?_) ?_
    ·simp [ZDB]
     have hg2:=(h1.f.2 g hg).1.2.2.2.1.1
     have hg3:=hok.1.2.2.2.1.1
     refine .code H.ifaceReasonsX3 rfl ?_
     simp(disch:=omega)[ZkY]
     refine ZFO H (by have:=(h1.f.2 g hg).1.1.1;omega) ?_
     simp(disch:=omega)
     by_cases e1:bse g.s=bse m2.free[j].s
     ·by_cases e2:g.ps.length=m2.free[j].ps.length
      ·rw [ZDz ⟨e1,e2⟩] at hQ
       simp(disch:=omega)[e1,e2]
       exact hQ
      ·rw [ZDy fun h=>e2 h.2] at hQ
       simp(disch:=omega)[e1,e2]
       exact hQ
     ·rw [ZDy fun h=>e1 h.1] at hQ
      simp(disch:=omega)[e1]
      exact hQ
    ·cases hbe:m1.beside m2.free[j]
     ·have hy:=ZE1 (m1:=m1) hj fun _=>hbe
      rw [Mo.beside] at hbe
      rw [hbe]
      simp(disch:=omega)
      exact RdN.mk (j+1) (by rw [hy];simp) hj Zo
     ·have hy:=ZFj (m1:=m1) hj h hbe
      rw [Mo.beside] at hbe
      rw [hbe]
      simp(disch:=omega)
      refine ZEi H (l:=b4++ZEa m1 m2 j) (ns:=[m2.free[j].s]) Zs Ze (by rw [Yu,<-hy];simp at hb⊢;omega) ?_
      simp(disch:=omega)
      exact RdN.mk (j+1) (by rw [hy];simp) hj Zo
   ·have hy:=ZE1 (m1:=m1) hj fun hl=>absurd h (hl _ (Yl hi'))
    simp(disch:=omega)
    exact RdN.mk (j+1) (by rw [hy];simp) hj Zo
  ·rw [show j=m2.free.length by omega]
   generalize b4++ZEa m1 m2 m2.free.length=b5 at hb hQ⊢
   simp(disch:=omega)
   refine ZGj H (m1:=m1) (m2:=m2) n1 n2 h1.p h2.p (b:=b5) (by simp only [YE] at hb⊢;omega) ?_
   generalize b5++(ZDP Pr.s m2.ps).flatMap (Pr.chosen m1)++(ZDP No.s m1.ns).flatMap (No.chosen m1 m2)=b6 at hb hQ⊢
   simp(disch:=omega)[cloR]
   refine ZFb (N:=ZcV) (s:=9) H.ifaceFirstApiConfq rfl (first:=[]) (caps:=[⟨false,0,0⟩,⟨false,1,0⟩]) (st:=st3 m1 m2 m1) (K:=3) (f:=Co.nm) (R:=Co.news m1) h2.c.1 (fun _ _=>rfl) (fun b=>ZEn) (fun _=>rfl) PassR.nil (by simp [PassR]) (fun x hx b Q hQ=>ZEA H (h2.c.2 x hx).1 ZEn hQ) (fun x hx b Q hb hQ=>?_) (b:=b6) hb ?_
   ·obtain ⟨i,hi,rfl,_⟩:=ZDI hx
    simp [ZDB]
    exact ZGU H n1 h1.p h1.c (h2.c.get hi) hb hQ
   ·generalize b6++(ZDP Co.nm m2.cs).flatMap (Co.news m1)=b7 at hb hQ⊢
    have hrl:=ZFe (l:=b7)
    by_cases hlen:100<(rzs b7).length
    ·simp(disch:=omega)[hlen,ZEw]
     exact hQ
    ·rw [Yg Zo] at hQ
     simp(disch:=omega)[hlen,ZEw]
     exact hQ
def ZEh (H:HG S) {m1 m2:Mo} (h1:m1.okn) (h2:m2.okn) (hb:(ZD1 m1 m2).length<68719476736) (hQ:Q [pb (dq (ZD1 m1 m2=[]))] []):Gives S Zgo [.agg m1.cs',.agg m2.cs'] [] Q:=by
 refine .code H.ifaceCompatible rfl ?_
 simp(disch:=omega)[Zkc]
 refine ZFH H h1 h2 hb ?_
 have hl:((rzs (ZD1 m1 m2)).take 100).length=min 100 (ZD1 m1 m2).length:=by rw [List.length_take,ZFe]
 by_cases e:ZD1 m1 m2=[]
 ·rw [ZDz e] at hQ
  simp(disch:=omega)[e,rzs]
  exact hQ
 ·rw [ZDy e] at hQ
  have:0<(ZD1 m1 m2).length:=List.length_pos_iff.2 e
  generalize (rzs (ZD1 m1 m2)).take 100=z at hl⊢
  simp(disch:=omega)
  have hz:z≠[]:=by rintro rfl;simp at hl;omega
  simpa [hz] using hQ
end Go.Am.Fe
end
section
namespace Go.Am.Fe
theorem RowsOf.lift {α:Type} {R:List P->Prop} {row:α->List P} {p:α->Prop} {l:LP} (h:RowsOf R l) (hR: ∀r,R r-> ∃x,row x=r/\p x): ∃L:List α,L.map row=l/\Ok p L:=by
 obtain ⟨h1,h2⟩:=h
 suffices∃L:List α,L.map row=l/\ ∀x∈L,p x by
   obtain ⟨L,e,hp⟩:=this
   exact ⟨L,e,by rw [<-e,Yh] at h1;exact h1,hp⟩
 clear h1
 induction l with
 | nil=>exact ⟨[],rfl,fun _ h=>nomatch h⟩
 | cons r l ih=>
   obtain ⟨L,e,hp⟩:=ih fun x hx=>h2 x (Yk _ hx)
   obtain ⟨x,ex,hx⟩:=hR r (h2 r Yr)
   exact ⟨x::L,by simp [e,ex],fun y hy=>(List.mem_cons.1 hy).elim (fun h=>h ▸ hx) (hp y)⟩
def FTy.lift {m:Nat} {k n:Int} {s:LN} {a:LP} (h:FTy m [.i k,.str s,.i n,.sl 4 a]): ∃t:Ty,(t.fit/\t.fw)/\t.k=k/\t.s=s/\t.n=n/\Ty.encs t.a=a:=by
 obtain ⟨⟨k',s',n',a'⟩,e,h1,_⟩:=h
 simp only [Ty.enc,Yf,P.int.injEq,P.str.injEq,P.sl.injEq,true_and,and_true] at e
 obtain ⟨rfl,rfl,rfl,rfl⟩:=e
 exact ⟨_,⟨h1,Ty.fit_fw _ h1⟩,rfl,rfl,rfl,rfl⟩
def FTys.lift {m:Nat} {l:LP} (h:FTys m l): ∃L:List Ty,Ty.encs L=l/\Ok Ty.fw L:=by
 obtain ⟨L,e,h1,h2,_⟩:=h
 exact ⟨L,e,h1,Ty.fws_mem (Ty.fits_fw _ h2)⟩
def FNd.lift {mm:Nat} {o n k m z:Int} {s u:LN} {a t l:LP} (h:FNd mm [.i o,.str s,.i n,.i k,.str u,.i m,.sl 4 a,.sl 4 t,.sl 10 l,.i z]):
  ∃x:Nd,x.fit/\x.row=[.i o,.str s,.i n,.i k,.str u,.i m,.sl 4 a,.sl 4 t,.sl 10 l,.i z]:=by
 obtain ⟨x,e,h1,_⟩:=h
 exact ⟨x,h1,by rw [<-e,Nd.enc_row]⟩
def PaR.lift (r:List P) (h:PaR r): ∃x:Pa,x.row=r/\x.ok:=by
 obtain ⟨m,s,o,k,n,u,a,rfl,h1,h2⟩:=h
 obtain ⟨t,ht,rfl,rfl,rfl,rfl⟩:=h2.lift
 exact ⟨⟨s,o,t⟩,rfl,h1,ht.2⟩
def MeR.lift (r:List P) (h:MeR r): ∃x:Me,x.row=r/\x.ok:=by
 obtain ⟨m1,m2,s,ps,k1,n1,k2,n2,s1,s2,a1,a2,rfl,h1,h2,h3,h4⟩:=h
 obtain ⟨L,rfl,hL⟩:=h2.lift PaR.lift
 obtain ⟨t,ht,rfl,rfl,rfl,rfl⟩:=h3.lift
 obtain ⟨v,hv,rfl,rfl,rfl,rfl⟩:=h4.lift
 exact ⟨⟨s,L,t,v⟩,rfl,h1,hL,ht.2,hv.2⟩
def AsR.lift (r:List P) (h:AsR r): ∃x:As,x.row=r/\x.ok:=by
 obtain ⟨s,bs,rfl,h1,h2⟩:=h
 exact ⟨⟨s,bs⟩,rfl,h1,h2.1⟩
def PrR.lift (r:List P) (h:PrR r): ∃x:Pr,x.row=r/\x.ok:=by
 obtain ⟨s,as,ms,rfl,h1,h2,h3⟩:=h
 obtain ⟨L,rfl,hL⟩:=h2.lift AsR.lift
 obtain ⟨M,rfl,hM⟩:=h3.lift MeR.lift
 exact ⟨⟨s,L,M⟩,rfl,h1,hL,hM⟩
def FiR.lift (r:List P) (h:FiR r): ∃x:Fi,x.row=r/\x.ok:=by
 obtain ⟨m,s,k,n,u,a,b,rfl,h1,h2⟩:=h
 obtain ⟨t,ht,rfl,rfl,rfl,rfl⟩:=h2.lift
 exact ⟨⟨s,t,b⟩,rfl,h1,ht.2⟩
def CaR.lift (r:List P) (h:CaR r): ∃x:Ca,x.row=r/\x.ok:=by
 obtain ⟨m,s,ts,b,rfl,h1,h2⟩:=h
 obtain ⟨L,rfl,hL⟩:=h2.lift
 exact ⟨⟨s,L,b⟩,rfl,h1,hL⟩
def Ty.of_kty {gs:List LN} {t:Ty} (h:KTy gs [.i t.k,.str t.s,.i t.n,.sl 4 (Ty.encs t.a)]):t.kn gs:=by
 obtain ⟨u,e,g⟩:=h
 obtain rfl:u=t:=Ty.enc_inj (by rw [e];cases t;rfl)
 exact g
theorem Ty.of_ktys {gs:List LN} {l:List Ty} (h:KTys gs (Ty.encs l)): ∀t∈l,t.kn gs:=by
 obtain ⟨L,e,g⟩:=h
 obtain rfl:=Ty.encs_inj e
 clear e
 induction L with
 | nil=>exact fun _ h=>nomatch h
 | cons x L ih=>exact fun t ht=>(List.mem_cons.1 ht).elim (fun e=>e ▸ g.1) (ih g.2 t)
structure No.kn (x:No):Prop where
 nd:x.gs.Nodup
 fs: ∀f∈x.fs,f.t.kn x.gs
 cs: ∀c∈x.cs,∀t∈c.ts,t.kn x.gs
structure No.Good (x:No):Prop where
 ok:x.okn
 f:(x.fs.map Fi.s).Nodup
 c:(x.cs.map Ca.s).Nodup
 fl:x.fs.length<=90000
 cl:x.cs.length<=90000
 kn:x.kn
 df:x.d.fit
def NoR.lift (r:List P) (h:NoR r): ∃x:No,x.row=r/\x.Good:=by
 obtain ⟨mm,s,kd,gs,b1,b2,fs,cs,o,n,k,m,z,s1,u,a,t,l,rfl,h1,h2,h3,h4,h5,h6,h7,h8,h9⟩:=h
 obtain ⟨L,rfl,hL⟩:=h3.lift FiR.lift
 obtain ⟨M,rfl,hM⟩:=h4.lift CaR.lift
 obtain ⟨x,hx,ex⟩:=h5.lift
 obtain ⟨h9,k1,k2,k3⟩:=h9
 rw [Yh] at h8 h9
 have e1:nmL (L.map Fi.row)=L.map Fi.s:=by simp only [nmL,YK];rfl
 have e2:nmL (M.map Ca.row)=M.map Ca.s:=by simp only [nmL,YK];rfl
 rw [e1] at h6
 rw [e2] at h7
 refine ⟨⟨s,kd,gs,b1,b2,L,M,x⟩,?_,⟨⟨h1,h2.1,hL,hM⟩,h2⟩,h6,h7,h8,h9,⟨k1,fun f hf=>Ty.of_kty (k2 _ (List.mem_map_of_mem hf)),fun c hc=>?_⟩,hx⟩
 rotate_left
 ·obtain ⟨s',ts,b',e,hk⟩:=k3 _ (List.mem_map_of_mem hc)
  simp only [Ca.row,Yf,P.sl.injEq,true_and,and_true] at e
  exact Ty.of_ktys (e.2.1 ▸ hk)
 simp only [Yf,P.int.injEq,P.str.injEq,P.sl.injEq,true_and,and_true] at ex⊢
 exact ex
def ReR.lift (r:List P) (h:ReR r): ∃x:Re,x.row=r/\x.ok:=by
 obtain ⟨m1,m2,o,s,k1,n1,k2,n2,s1,s2,a1,a2,rfl,h1,h3,h4⟩:=h
 obtain ⟨t,ht,rfl,rfl,rfl,rfl⟩:=h3.lift
 obtain ⟨v,hv,rfl,rfl,rfl,rfl⟩:=h4.lift
 exact ⟨⟨o,t,s,v⟩,rfl,h1,ht.2,hv.2⟩
structure Co.kn (x:Co):Prop where
 nd:x.gs.Nodup
 rs: ∀q∈x.rs,q.t.kn x.gs/\q.o.kn x.gs
 ts: ∀t∈x.ts,t.kn x.gs
def CoR.lift (r:List P) (h:CoR r): ∃x:Co,x.row=r/\x.okn/\x.kn:=by
 obtain ⟨m1,m2,s,k,n,u,a,gs,qs,ts,fs,rfl,h1,h2,h3,h4,h5,h6⟩:=h
 obtain ⟨t,ht,rfl,rfl,rfl,rfl⟩:=h2.lift
 obtain ⟨L,rfl,hL⟩:=h4.lift ReR.lift
 obtain ⟨M,rfl,hM⟩:=h5.lift
 obtain ⟨h6,k1,k2,k3⟩:=h6
 exact ⟨⟨s,t,gs,L,M,fs⟩,rfl,⟨⟨⟨h1,ht.2,h3.1,hL,hM,h6.1⟩,by cases t;exact ht.1.1.1⟩,h3⟩,k1,fun q hq=>⟨Ty.of_kty (k2 _ (List.mem_map_of_mem hq)).1,Ty.of_kty (k2 _ (List.mem_map_of_mem hq)).2⟩,Ty.of_ktys k3⟩
structure Fu.kn (x:Fu):Prop where
 nd:x.gs.Nodup
 rs: ∀q∈x.rs,q.t.kn x.gs/\q.o.kn x.gs
 ps: ∀p∈x.ps,p.t.kn x.gs
 r:x.r.kn x.gs
 e:x.e.kn x.gs
def FuR.lift (r:List P) (h:FuR r): ∃x:Fu,x.row=r/\x.okn/\(47∈x.s∨58∈x.s)/\x.kn/\123∉x.s/\x.b.fit:=by
 obtain ⟨mm,m1,m2,s,gs,qs,ps,k1,n1,k2,n2,s1,s2,a1,a2,o,n,k,m,z,s3,u,a,t,l,rfl,h1,h2,h3,h4,h5,h6,h7,k1,k2,k3,k4,k5⟩:=h
 obtain ⟨L,rfl,hL⟩:=h3.lift ReR.lift
 obtain ⟨M,rfl,hM⟩:=h4.lift PaR.lift
 obtain ⟨v,hv,rfl,rfl,rfl,rfl⟩:=h5.lift
 obtain ⟨w,hw,rfl,rfl,rfl,rfl⟩:=h6.lift
 obtain ⟨x,hx,ex⟩:=h7.lift
 refine ⟨⟨s,gs,L,M,v,w,x⟩,?_,⟨⟨h1.1,h2.1,hL,hM,hv.2,hw.2⟩,h2⟩,h1.2.1.imp And.left And.left,⟨k1,fun q hq=>?_,fun p hp=>?_,Ty.of_kty k4,Ty.of_kty k5⟩,h1.2.2,hx⟩
 ·simp only [Yf,P.int.injEq,P.str.injEq,P.sl.injEq,true_and,and_true] at ex⊢
  exact ex
 ·have h:=k2 _ (List.mem_map_of_mem hq)
  exact ⟨Ty.of_kty h.1,Ty.of_kty h.2⟩
 ·exact Ty.of_kty (k3 _ (List.mem_map_of_mem hp))
structure Mo.Good (m:Mo):Prop where
 n:Ok No.Good m.ns
 p:Ok Pr.ok m.ps
 c:Ok (fun x=>x.okn/\x.kn) m.cs
 f:Ok (fun x=>x.okn/\(47∈x.s∨58∈x.s)/\x.kn/\123∉x.s/\x.b.fit) m.fs
def Mo.Good.okn {m:Mo} (h:m.Good):m.okn:=⟨h.n.imp fun _ h=>h.ok,h.p,h.c.imp fun _ h=>h.1,h.f.imp fun _ h=>h.1⟩
def ZFr {noms pro cfs fns:LP} (h1:RowsOf NoR noms) (h2:RowsOf PrR pro) (h3:RowsOf CoR cfs) (h4:RowsOf FuR fns): ∃m:Mo,m.Good/\m.ns.map No.row=noms/\m.ps.map Pr.row=pro/\m.cs.map Co.row=cfs/\m.fs.map Fu.row=fns:=by
 obtain ⟨a,ea,ha⟩:=h1.lift NoR.lift
 obtain ⟨b,eb,hb⟩:=h2.lift PrR.lift
 obtain ⟨c,ec,hc⟩:=h3.lift CoR.lift
 obtain ⟨d,ed,hd⟩:=h4.lift FuR.lift
 exact ⟨⟨a,b,c,d⟩,⟨ha,hb,hc,hd⟩,ea,eb,ec,ed⟩
def Ty.put_self (gs:List LN): ∀(n:Nat) (t:Ty),t.sz<n->t.fw->t.put gs gs=t
 | 0,_,h,_=>absurd h (YH _)
 | n+1,t,hs,ht=>by
   unfold Ty.put Ty.sub
   cases hp:t.pick gs (gs.map Ty.par) with
   | some u=>
     rw [Ty.rep_some hp]
     unfold Ty.pick at hp
     split at hp
     · rename_i hc
       have hi:=List.idxOf_lt_length_iff.2 hc.2
       rw [Yn,Ya hi,YM,List.getElem_idxOf hi] at hp
       injection hp with hp
       obtain ⟨k,s,m,a⟩:=t
       obtain ⟨_,h7,_⟩:=ht
       obtain rfl:k=7:=hc.1
       obtain ⟨rfl,rfl⟩:=h7 rfl
       exact hp.symm
     · cases hp
   | none=>
     rw [Ty.rep_none hp]
     obtain ⟨k,s,m,a⟩:=t
     obtain ⟨h2,h3,h4⟩:=ht
     show Ty.mk k s m (a.map _)=_
     rw [show a.map (Ty.rep (Ty.pick gs (gs.map Ty.par)))=a from (YC fun x hx=>by
       obtain ⟨j,hj,rfl⟩:=YD hx
       exact Ty.put_self gs n _ (by have:=Ty.szs_get hj;simp [Ty.sz] at hs this⊢;omega) (Ty.fws_get h4 hj)).trans (List.map_id a)]
def Ty.put_id {gs:List LN} {t:Ty} (h:t.fw):t.put gs gs=t:=Ty.put_self gs _ t (Yz _) h
def ZEf {α:Type} {l:List α} {f:α->α} (h: ∀x∈l,f x=x):l.map f=l:=(YC h).trans (List.map_id l)
def Re.put_id {gs:List LN} {x:Re} (h:x.ok):x.put gs gs=x:=by unfold Re.put;rw [Ty.put_id h.2.1,Ty.put_id h.2.2]
def Pa.put_id {gs:List LN} {x:Pa} (h:x.ok):x.put gs gs=x:=by unfold Pa.put;rw [Ty.put_id h.2]
def Fi.put_id {gs:List LN} {x:Fi} (h:x.ok):x.put gs gs=x:=by unfold Fi.put;rw [Ty.put_id h.2]
def Ca.put_id {gs:List LN} {x:Ca} (h:x.ok):x.put gs gs=x:=by unfold Ca.put;rw [ZEf fun t ht=>Ty.put_id (h.2.2 t ht)]
def Fu.ent_self {f:Fu} (h:f.okn):f.ent f:=by
 obtain ⟨⟨_,_,h3,h4,h5,h6⟩,_⟩:=h
 exact ⟨rfl,rfl,rfl,(ZEf fun x hx=>Re.put_id (h3.2 x hx)).symm,by rw [ZEf fun x hx=>Pa.put_id (h4.2 x hx)],(Ty.put_id h5).symm,(Ty.put_id h6).symm⟩
def Co.sim_self {c:Co} (h:c.okn):c.sim c:=by
 obtain ⟨⟨⟨_,_,_,h4,h5,_⟩,_⟩,_⟩:=h
 exact ⟨rfl,(ZEf fun x hx=>Re.put_id (h4.2 x hx)).symm,(ZEf fun x hx=>Ty.put_id (h5.2 x hx)).symm,rfl⟩
def At.more {α:Type} {f:α->LN} {l:List α} (nd:(l.map f).Nodup) {x:α} (hx:x∈l) (e:List α): ∃(i:Nat) (h:At f (l++e) (f x) i),(l++e)[i]'h.1=x:=by
 obtain ⟨i,hi,rfl⟩:=YD hx
 have h1:i<(l++e).length:=by rw [YE];omega
 have h2:(l++e)[i]=l[i]:=List.getElem_append_left hi
 refine ⟨i,⟨h1,by rw [h2],fun y hy he=>?_⟩,h2⟩
 rw [List.take_append_of_le_length (Nat.le_of_lt hi)] at hy
 obtain ⟨k,hk,rfl⟩:=YD hy
 rw [List.length_take] at hk
 rw [List.getElem_take] at he
 exact List.pairwise_iff_getElem.1 nd k i (by rw [Yh];omega) (by rw [Yh];omega) Zo (by rw [List.getElem_map,List.getElem_map];exact he)
structure No.Ext (q:Mo) (x y:No):Prop where
 k:y.k=x.k
 gs:y.gs=x.gs
 m:y.m=x.m
 f:y.f=x.f
 e: ∃(a:List Fi) (b:List Ca),y.fs=x.fs++a/\y.cs=x.cs++b/\(x.f=true->a=[]/\b=[])/\(∀z∈a,z.ok/\q.meth z.s=false)/\ ∀z∈b,z.ok
def No.cmp_ext {m:Mo} {x y:No} (h:x.Good) (e:x.Ext m y):x.cmp y=[]:=by
 obtain ⟨e1,e2,e3,e4,a,b,e5,e6,e7,e8,e9⟩:=e
 obtain ⟨⟨_,_,h3,h4⟩,_⟩:=h.ok
 unfold No.cmp
 rw [ZDz ⟨e1.symm,by rw [e2],e3.symm,e4.symm⟩,if_pos rfl,e2,e5,e6,ZEf fun z hz=>Fi.put_id ((List.mem_append.1 hz).elim (h3.2 z) fun hz=>(e8 z hz).1),ZEf fun z hz=>Ca.put_id ((List.mem_append.1 hz).elim (h4.2 z) (e9 z))]
 by_cases hf:x.f=true
 ·obtain ⟨rfl,rfl⟩:=e7 hf
  rw [if_pos hf,ZDz ⟨by simp,by simp⟩,if_pos rfl]
 ·rw [if_neg hf,No.mems,No.mf,No.mc,List.take_length,List.take_length,List.filter_eq_nil_iff.2,List.filter_eq_nil_iff.2]
  ·rfl
  ·intro z hz hb
   obtain ⟨i,hi,ez⟩:=At.more h.c hz b
   rw [ZD3,Ca.bad_at hi,ez] at hb
   exact hb rfl
  ·intro z hz hb
   obtain ⟨i,hi,ez⟩:=At.more h.f hz a
   rw [ZD3,Fi.bad_at hi,ez] at hb
   rcases hb with hb|⟨h1,h2⟩
   ·exact hb rfl
   ·rw [h1] at h2;cases h2
def ZKV {m m2:Mo} (h:m.Good) (hn: ∀(x:No) (i:Nat) (hi:At No.s m.ns x.s i),m.ns[i]'hi.1=x-> ∃h2:At No.s m2.ns x.s i,x.Ext m (m2.ns[i]'h2.1)) (hp:m2.ps=m.ps) (hc:m2.cs=m.cs)
  {ef:List Fu} (hf:m2.fs=m.fs++ef) (hb: ∀f∈ef,m.beside f=false):ZD1 m m2=[]:=by
 have a1:(ZDP No.s m.ns).flatMap (No.rs m2)=[]:=List.flatMap_eq_nil_iff.2 fun x hx=>by
  obtain ⟨i,hi,e,ha⟩:=ZDI hx
  obtain ⟨h2,he⟩:=hn x i ha e
  rw [No.rs,ZD2 h2]
  exact No.cmp_ext (e ▸ h.n.get hi) he
 have a2:(ZDP Pr.s m.ps).flatMap (Pr.rs m2)=[]:=List.flatMap_eq_nil_iff.2 fun x hx=>by
  obtain ⟨i,hi,e,ha⟩:=ZDI hx
  rw [Pr.rs,hp,ZD2 ha]
  show (if dq _ then _ else _)=_
  rw [e,ZDz ⟨rfl,rfl⟩,if_pos rfl]
 have a3:(ZDP Co.nm m.cs).flatMap (Co.rsn m2)=[]:=List.flatMap_eq_nil_iff.2 fun x hx=>by
  obtain ⟨i,hi,e,ha⟩:=ZDI hx
  rw [Co.rsn,hc,ZD2 ha]
  show (if dq _ then _ else _)=_
  rw [e,ZDz (Co.sim_self (e ▸ (h.c.get hi).1)),if_pos rfl]
 have a4:ZEb m m2 m.free.length=[]:=by
  rw [ZEb,List.take_length,List.filter_eq_nil_iff.2,List.map_nil]
  intro f hf2 hl
  obtain ⟨i,hi,_,rfl⟩:=Mo.free_mem hf2
  exact ZD3.1 hl _ (by rw [hf];exact List.mem_append_left _ (Yl hi)) (Fu.ent_self (h.f.get hi).1)
 have a5:ZEa m m2 m2.free.length=[]:=by
  rw [ZEa,List.take_length,List.filter_eq_nil_iff.2,List.map_nil]
  intro f hf2 hl
  obtain ⟨i,hi,_,e⟩:=Mo.free_mem hf2
  rw [Yb,ZD3] at hl
  have hm:f∈m.fs++ef:=by rw [<-hf,<-e];exact Yl hi
  rcases List.mem_append.1 hm with hm|hm
  ·exact hl.1 _ hm (Fu.ent_self (h.f.2 _ hm).1)
  ·rw [hb _ hm] at hl
   exact absurd hl.2 Zd
 have a6:(ZDP Pr.s m2.ps).flatMap (Pr.chosen m)=[]:=List.flatMap_eq_nil_iff.2 fun x hx=>by
  obtain ⟨i,hi,e,_⟩:=ZDI hx
  have hm:x∈m.ps:=by rw [<-hp,<-e];exact Yl hi
  rw [Pr.chosen,if_pos (List.any_eq_true.2 ⟨_,hm,ZDz rfl⟩)]
 have a7:(ZDP No.s m.ns).flatMap (No.chosen m m2)=[]:=List.flatMap_eq_nil_iff.2 fun x hx=>by
  obtain ⟨i,hi,e,ha⟩:=ZDI hx
  obtain ⟨h2,he⟩:=hn x i ha e
  obtain ⟨_,_,_,_,a,b,e5,_,_,e8,_⟩:=he
  rw [No.chosen,ZD2 h2]
  show (if dq _ then _ else _)=_
  by_cases hk:x.k=2
  ·rw [ZDz hk,if_pos rfl]
  ·rw [ZDy hk,if_neg Zd,No.ch,List.take_length,List.filter_eq_nil_iff.2,List.map_nil]
   intro f hf2 hl
   rw [Yb] at hl
   rw [e5] at hf2
   rcases List.mem_append.1 hf2 with hf2|hf2
   ·rw [No.has,ZDz hk,List.any_eq_true.2 ⟨f,hf2,ZDz rfl⟩] at hl
    exact absurd hl.1 Zd
   ·rw [(e8 f hf2).2] at hl
    exact absurd hl.2 Zd
 have a8:(ZDP Co.nm m2.cs).flatMap (Co.news m)=[]:=List.flatMap_eq_nil_iff.2 fun x hx=>by
  obtain ⟨i,hi,e,_⟩:=ZDI hx
  have hm:x∈m.cs:=by rw [<-hc,<-e];exact Yl hi
  rw [Co.news,if_neg]
  rw [show (m.cs.any fun y=>dq (y.nm=x.nm))=true from List.any_eq_true.2 ⟨_,hm,ZDz rfl⟩]
  simp
 rw [ZD1,a1,a2,a3,a4,a5,a6,a7,a8]
 rfl
def No.Ext.rfl {m:Mo} {x:No}:x.Ext m x:=⟨Eq.refl _,Eq.refl _,Eq.refl _,Eq.refl _,[],[],by simp,by simp,fun _=>⟨Eq.refl _,Eq.refl _⟩,by simp,by simp⟩
end Go.Am.Fe
end
section
namespace Go.Am.Fe
variable {S:SF} {Q:QF}
attribute [local simp] ZbO if_pos if_neg decide_eq_true decide_eq_false Yi Yj ZgF
def ZLp (l:List No):Wid 17 (l.map No.row):=fun r hr=>by obtain ⟨y,_,rfl⟩:=List.mem_map.1 hr;rfl
section
variable {e:Env} {k κ s:Nat} {c1 c2 c3:C}
def ZLa {l:LP} (h:0<l.length):Zpk k 0 κ 17 e (.a (.agg [.uniq 17 l,c1,c2,c3]))=(κ,.a (.agg (ZD7 l)))::(k,.a (.agg [.own ⟨true,κ,0⟩ 17 l.length,c1,c2,c3]))::e:=by
 cases l with
 | nil=>simp at h
 | cons r l=>simp [Zpk,A.setCell,Env.set,A.cells,ZD7]
def ZK8 {l:LP} {n:Nat} (h:n=l.length) (h4:Wid 17 l):Zqs k 0 κ 17 e (.a (.agg [.own ⟨true,κ,0⟩ 17 n,c1,c2,c3])) (.a (.agg (ZD7 l)))=(k,.a (.agg [.uniq 17 l,c1,c2,c3]))::(κ,.undef)::e:=by
 subst h
 have h2:l.length*17<=(ZD7 l).length:=Nat.le_of_eq (by rw [ZD7,Yh,h4.flat])
 have h3:=ZEX h4 rfl
 simp [Zqs,A.cells,A.setCell,Env.set,h2,h3,ZEz h4]
def ZLz {l:LP}:pubG k 0 e (.a (.agg [.uniq 17 l,c1,c2,c3]))=(k,.a (.agg [.tip 17 l,c1,c2,c3]))::e:=rfl
end
end Go.Am.Fe
end
section
namespace Go.Am.Fe
variable {S:SF} {Q:QF}
attribute [local simp] ZbO if_pos if_neg decide_eq_true decide_eq_false Yi Yj ZgF Ops.callv List.idxOf?_cons
def ZLI {N s:Nat} {z:LC} (hN:S N=some (.code (ZLM s z))) (hz:z.length=s) {f:Nat} {α:Type} {l:List α} {w:α->List P} (hl:l.length<=100000) (hs: ∀x∈l,(w x).length=s)
  {g:α->List P} (hg: ∀x∈l,(g x).length=s) (hp: ∀x∈l,∀Q,Q [.agg ((g x).map .p)] []->Gives S f [.agg ((w x).map .p)] [] Q) (hQ:Q [.one (.uniq s (l.map g))] []):
  Gives S N [.one (.p (.sl s (l.map w))),.one (.clo f [] [])] [] Q:=by
 refine .code hN rfl ?_
 simp(disch:=omega)[ZLM]
 refine Lp.rule (fun (j:Nat)=>[(1,.a (.one (.clo f [] []))),(5,.a (.one (.uniq s ((l.take j).map g)))),(9,.a (.one (.p (.sl s (l.map w))))),(10,.a (pi l.length)),(11,.a (pi j)),o9]) (fun j=>j<=l.length) (fun j=>l.length-j) (a₀:=0) Zs (Yd _) ?_
 intro j k1
 by_cases hj:j<l.length
 · have hm:=Yl hj
   have e:=hs _ hm
   have e':=hg _ hm
   have hd:z.drop (w l[j]).length=[]:=by simp [hz,e]
   have hd':z.drop s=[]:=by simp [hz]
   have hd2: ∀h:C->C,(z.map h).drop s=[]:=by simp [hz]
   simp(disch:=omega)[ZF4 e,hz,putR e hz,hd,cutR e]
   refine hp _ hm _ ?_
   simp(disch:=omega)[ZF4 e',hz,putR e' hz,hd',hd2,cutR e',e']
   exact RdN.mk (j+1) (by simp [Ym,Ya hj]) hj Zo
 · simp(disch:=omega)
   rw [Yg Ze]
   exact hQ
structure HC (S:SF):Prop where
 tableListApiFieldq:S ZFY=some (.code ZKy)
 tableCopyNominalX1:S ZEr=some (.code ZFX)
 tableListApiCaseq:S ZGl=some (.code ZKC)
 tableCopyNominalX2:S ZBt=some (.code ZF8)
 tableCopyNominal:S ZFu=some (.code ZGW)
 tableListApiAssocq:S ZGf=some (.code ZKz)
 tableCopyProtocolX1:S Zwb=some (.code ZFS)
 tableListApiMethodq:S ZFx=some (.code ZKw)
 tableCopyProtocolX2:S ZwD=some (.code ZFn)
 tableCopyProtocol:S ZE3=some (.code ZGA)
 tableListApiProtocolq:S ZEG=some (.code ZGM)
 tableListApiConfq:S ZGq=some (.code ZKB)
 tableCopyConfq:S ZGr=some (.code ZKA)
 tableListApiNominalq:S ZFp=some (.code ZGP)
 tableListApiFuncq:S ZE2=some (.code ZF9)
 tableCopy:S ZKH=some (.code ZKI)
def ZLj (H:HG S) (C:HC S) {x:Fi} (hx:x.ok) (hQ:Q [.agg (x.row.map .p)] []):Gives S ZEr [.agg (x.row.map .p)] [] Q:=by
 refine .code C.tableCopyNominalX1 rfl ?_
 simp(disch:=omega)[ZFX]
 refine ZEd H hx.2 ?_
 simp(disch:=omega)
 exact hQ
def ZLn (H:HG S) (C:HC S) {x:Ca} (hx:x.ok) (hQ:Q [.agg (x.row.map .p)] []):Gives S ZBt [.agg (x.row.map .p)] [] Q:=by
 refine .code C.tableCopyNominalX2 rfl ?_
 simp(disch:=omega)[ZF8]
 refine ZFG H ⟨hx.2.1,hx.2.2⟩ ?_
 simp(disch:=omega)
 exact hQ
def ZLc (H:HG S) (C:HC S) {x:No} (hx:x.ok) (hd:x.d.fit) (hQ:Q [.agg (x.row.map .p)] []):Gives S ZFu [.agg (x.row.map .p)] [] Q:=by
 obtain ⟨_,h1,h2,h3⟩:=hx
 refine .code C.tableCopyNominal rfl ?_
 simp(disch:=omega)[ZGW]
 refine ZFs H h1 ?_
 simp(disch:=omega)
 refine ZEO H _ _ _ (Yz _) hd ?_
 simp(disch:=omega)
 refine ZFJ C.tableListApiFieldq rfl h2.1 (fun _ _=>rfl) Pass.nil (g:=Fi.row) (fun _ _=>rfl) (fun y hy Q hQ=>ZLj H C (h2.2 y hy) hQ) ?_
 simp(disch:=omega)
 refine ZFJ C.tableListApiCaseq rfl h3.1 (fun _ _=>rfl) Pass.nil (g:=Ca.row) (fun _ _=>rfl) (fun y hy Q hQ=>ZLn H C (h3.2 y hy) hQ) ?_
 simp(disch:=omega)
 exact hQ
def ZLl (H:HG S) (C:HC S) {x:As} (hx:x.ok) (hQ:Q [.agg (x.row.map .p)] []):Gives S Zwb [.agg (x.row.map .p)] [] Q:=by
 refine .code C.tableCopyProtocolX1 rfl ?_
 simp(disch:=omega)[ZFS]
 refine ZFs H hx.2 ?_
 simp(disch:=omega)
 exact hQ
def ZLO {e:Env} {k:Nat} {l:LP} {c0 c2 c3 c4 c5 c6 c7 c8 c9:C}:pubG k 1 e (.a (.agg [c0,.uniq 6 l,c2,c3,c4,c5,c6,c7,c8,c9]))=(k,.a (.agg [c0,.tip 6 l,c2,c3,c4,c5,c6,c7,c8,c9]))::e:=rfl
def ZLo (H:HG S) (C:HC S) {x:Me} (hx:x.ok) (hQ:Q [.agg (x.row.map .p)] []):Gives S ZwD [.agg (x.row.map .p)] [] Q:=by
 obtain ⟨_,h1,h2,h3⟩:=hx
 refine .code C.tableCopyProtocolX2 rfl ?_
 simp(disch:=omega)[ZFn]
 refine ZFB H h1 ?_
 simp(disch:=omega)
 refine ZEd H h2 ?_
 simp(disch:=omega)
 refine ZEd H h3 ?_
 simp(disch:=omega)[ZLO]
 exact hQ
def ZLd (H:HG S) (C:HC S) {x:Pr} (hx:x.ok) (hQ:Q [.agg (x.row.map .p)] []):Gives S ZE3 [.agg (x.row.map .p)] [] Q:=by
 obtain ⟨_,h1,h2⟩:=hx
 refine .code C.tableCopyProtocol rfl ?_
 simp(disch:=omega)[ZGA]
 refine ZFJ C.tableListApiAssocq rfl h1.1 (fun _ _=>rfl) Pass.nil (g:=As.row) (fun _ _=>rfl) (fun y hy Q hQ=>ZLl H C (h1.2 y hy) hQ) ?_
 simp(disch:=omega)
 refine ZFJ C.tableListApiMethodq rfl h2.1 (fun _ _=>rfl) Pass.nil (g:=Me.row) (fun _ _=>rfl) (fun y hy Q hQ=>ZLo H C (h2.2 y hy) hQ) ?_
 simp(disch:=omega)
 exact hQ
def ZLg (H:HG S) (C:HC S) {x:Co} (hx:x.ok) (hQ:Q [.agg (x.row.map .p)] []):Gives S ZGr [.agg (x.row.map .p)] [] Q:=by
 obtain ⟨_,h1,h2,h3,h4,h5⟩:=hx
 refine .code C.tableCopyConfq rfl ?_
 simp(disch:=omega)[ZKA]
 refine ZEd H h1 ?_
 simp(disch:=omega)
 refine ZFs H h2 ?_
 simp(disch:=omega)
 refine ZFE H h3 ?_
 simp(disch:=omega)
 refine ZFG H h4 ?_
 simp(disch:=omega)
 refine ZFs H h5 ?_
 simp(disch:=omega)
 exact hQ
def ZK6 (H:HG S) (C:HC S) {l:List Fu} (hl:Ok Fu.ok' l) (hQ:Q [.one (.uniq 22 (l.map Fu.row))] []):Gives S ZE2 [.one (.l 22 (l.map Fu.row)),.one (.clo ZhE [] [])] [] Q:=by
 have g:=hl.1
 refine .code C.tableListApiFuncq rfl ?_
 simp(disch:=omega)[ZF9]
 refine Lp.rule (fun (j:Nat)=>[(1,.a (.one (.clo ZhE [] []))),(5,.a (.one (.uniq 22 ((l.map Fu.row).take j)))),(9,.a (.one (.l 22 (l.map Fu.row)))),(10,.a (pi l.length)),(11,.a (pi j)),o9]) (fun j=>j<=l.length) (fun j=>l.length-j) (a₀:=0) Zs (Yd _) ?_
 intro j k1
 by_cases hj:j<l.length
 ·simp(disch:=omega)
  refine ZGi H (hl.get hj) ?_
  simp(disch:=omega)[ZGs,Fu.uniq]
  exact RdN.mk (j+1) (by simp [Ym,Ya hj]) hj Zo
 ·simp(disch:=omega)
  rw [Yg Ze]
  exact hQ
def ZLq (H:HG S) (C:HC S) {m:Mo} (hm:m.okn) (h1: ∀x∈m.ns,x.d.fit) (h2: ∀x∈m.fs,x.b.fit) (hQ:Q [.agg [.uniq 17 (m.ns.map No.row),.l 3 (m.ps.map Pr.row),.l 9 (m.cs.map Co.row),.uniq 22 (m.fs.map Fu.row)]] []):Gives S ZKH [.agg m.cs'] [] Q:=by
 refine .code C.tableCopy rfl ?_
 simp(disch:=omega)[ZKI]
 refine ZLI C.tableListApiNominalq rfl hm.n.1 (fun _ _=>rfl) (g:=No.row) (fun _ _=>rfl) (fun x hx Q hQ=>ZLc H C (hm.n.2 x hx).1 (h1 x hx) hQ) ?_
 simp(disch:=omega)
 refine ZFJ C.tableListApiProtocolq rfl hm.p.1 (fun _ _=>rfl) Pass.nil (g:=Pr.row) (fun _ _=>rfl) (fun x hx Q hQ=>ZLd H C (hm.p.2 x hx) hQ) ?_
 simp(disch:=omega)
 refine ZFJ C.tableListApiConfq rfl hm.c.1 (fun _ _=>rfl) Pass.nil (g:=Co.row) (fun _ _=>rfl) (fun x hx Q hQ=>ZLg H C (hm.c.2 x hx).1.1 hQ) ?_
 simp(disch:=omega)
 refine ZK6 H C ⟨hm.f.1,fun x hx=>⟨(hm.f.2 x hx).1,h2 x hx⟩⟩ ?_
 simp(disch:=omega)
 exact hQ
end Go.Am.Fe
end
section
namespace Go.Am.Fe
def ZJL {p q:Prop} (h:p↔q):dq p=dq q:=by
 by_cases hp:p
 ·rw [ZDz hp,ZDz (h.1 hp)]
 ·rw [ZDy hp,ZDy fun hq=>hp (h.2 hq)]
def No.bare (x:No):No:=⟨x.s,x.k,x.gs,x.m,x.f,x.fs,x.cs,.zero⟩
def Fu.bare (f:Fu):Fu:=⟨f.s,f.gs,f.rs,f.ps,f.r,f.e,.zero⟩
def Mo.bare (m:Mo):Mo:=⟨m.ns.map No.bare,m.ps,m.cs,m.fs.map Fu.bare⟩
def ZIB {α β:Type} {f g:α->Option β}: ∀{l:List α},(∀x∈l,f x=g x)->l.filterMap f=l.filterMap g
 | [],_=>rfl
 | a::l,h=>by
   rw [List.filterMap_cons,List.filterMap_cons,h a Yr,ZIB (l:=l) fun x hx=>h x (Yk _ hx)]
def ZIU {α:Type} {f:α->List Nat} {p:α->α} (hp: ∀x,f (p x)=f x) (l:List α):ZDP f (l.map p)=(ZDP f l).map p:=by
 unfold ZDP ZDO
 rw [List.map_filterMap,Yh]
 refine ZIB fun i hi=>?_
 have hi:=List.mem_range.1 hi
 have e:ZGt f (l.map p) i↔ZGt f l i:=by
  constructor
  ·rintro ⟨h,h2⟩
   refine ⟨hi,fun x hx=>?_⟩
   have:=h2 (p x) (by rw [<-List.map_take];exact List.mem_map_of_mem hx)
   rwa [List.getElem_map,hp,hp] at this
  ·rintro ⟨h,h2⟩
   refine ⟨by rw [Yh];exact h,fun x hx=>?_⟩
   rw [<-List.map_take] at hx
   obtain ⟨y,hy,rfl⟩:=List.mem_map.1 hx
   rw [List.getElem_map,hp,hp]
   exact h2 y hy
 rw [ZJL e]
 split
 ·rw [Yn]
 ·rfl
def ZIK {α:Type} {f:α->List Nat} {p:α->α} (hp: ∀x,f (p x)=f x) {g:α->List Rz} (hg: ∀x,g (p x)=g x) (l:List α):(ZDP f (l.map p)).flatMap g=(ZDP f l).flatMap g:=by
 rw [ZIU hp,List.flatMap_map]
 exact congrArg (fun h=>(ZDP f l).flatMap h) (funext fun x=>hg x)
def ZIC {α:Type} {p:α->α} {g:α->Bool} (hg: ∀x,g (p x)=g x) (l:List α):(l.map p).any g=l.any g:=by
 rw [List.any_map]
 exact congrArg l.any (funext fun x=>hg x)
def ZJm {m:Mo}:m.bare.meth=m.meth:=rfl
def ZJO {m:Mo}:m.bare.fld=m.fld:=funext fun _=>ZIC (p:=No.bare) (fun _=>rfl) m.ns
def ZI5 {m:Mo} {f:Fu}:m.bare.lacks f↔m.lacks f:=⟨fun h g hg he=>h g.bare (List.mem_map_of_mem hg) he,fun h g hg he=>by
 obtain ⟨g',hg',rfl⟩:=List.mem_map.1 hg
 exact h g' hg' he⟩
def ZIO {m:Mo} {f:Fu}:m.bare.beside f=m.beside f:=ZIC (p:=Fu.bare) (fun _=>rfl) m.fs
def ZIL {m:Mo} {i:Nat}:m.bare.isFree i↔m.isFree i:=by
 have hl:m.bare.fs.length=m.fs.length:=Yh _
 have hs: ∀(i:Nat) (h:i<m.bare.fs.length),m.bare.fs[i].s=(m.fs[i]'(hl ▸ h)).s:=fun i h=>by
  have e:(m.fs.map Fu.bare)[i]'h=(m.fs[i]'(hl ▸ h)).bare:=List.getElem_map ..
  have e2:((m.fs.map Fu.bare)[i]'h).s=((m.fs[i]'(hl ▸ h)).bare).s:=congrArg Fu.s e
  exact e2
 have ht: ∀s:List Nat,(∀x∈m.bare.fs.take i,x.s≠s)↔ ∀x∈m.fs.take i,x.s≠s:=fun s=>by
  show (∀x∈(m.fs.map Fu.bare).take i,x.s≠s)↔_
  rw [<-List.map_take]
  exact ⟨fun h x hx=>h x.bare (List.mem_map_of_mem hx),fun h x hx=>by obtain ⟨y,hy,rfl⟩:=List.mem_map.1 hx;exact h y hy⟩
 constructor
 ·rintro ⟨h,⟨h1,h2,h3⟩,h4⟩
  rw [hs i h] at h3 h4
  exact ⟨hl ▸ h,⟨hl ▸ h,rfl,(ht _).1 h3⟩,h4⟩
 ·rintro ⟨h,⟨h1,h2,h3⟩,h4⟩
  refine ⟨hl.symm ▸ h,⟨hl.symm ▸ h,rfl,?_⟩,?_⟩
  ·rw [hs i (hl.symm ▸ h)];exact (ht _).2 h3
  ·rw [hs i (hl.symm ▸ h)];exact h4
def ZJr {m:Mo}:m.bare.free=m.free.map Fu.bare:=by
 have hl:m.bare.fs.length=m.fs.length:=Yh _
 unfold Mo.free Mo.freeTo
 rw [List.map_filterMap,hl]
 refine ZIB fun i _=>?_
 rw [ZJL ZIL]
 split
 ·show (m.fs.map Fu.bare)[i]? =_
  rw [Yn]
 ·rfl
def ZH6 {m1 m2:Mo}:ZD1 m1.bare m2=ZD1 m1 m2:=by
 have a1:(ZDP No.s m1.bare.ns).flatMap (No.rs m2)=(ZDP No.s m1.ns).flatMap (No.rs m2):=ZIK (p:=No.bare) (fun _=>rfl) (fun _=>rfl) m1.ns
 have a4:ZEb m1.bare m2 m1.bare.free.length=ZEb m1 m2 m1.free.length:=by
  unfold ZEb
  rw [List.take_length,List.take_length,ZJr,List.filter_map,YK]
  rfl
 have a5:ZEa m1.bare m2 m2.free.length=ZEa m1 m2 m2.free.length:=by
  unfold ZEa
  congr 2
  funext f
  rw [ZJL ZI5,ZIO]
 have a6:(ZDP Pr.s m2.ps).flatMap (Pr.chosen m1.bare)=(ZDP Pr.s m2.ps).flatMap (Pr.chosen m1):=by
  have e:Pr.chosen m1.bare=Pr.chosen m1:=funext fun p=>by
   unfold Pr.chosen Pr.ch
   rw [ZJO,ZJm]
   rfl
  rw [e]
 have a7:(ZDP No.s m1.bare.ns).flatMap (No.chosen m1.bare m2)=(ZDP No.s m1.ns).flatMap (No.chosen m1 m2):=ZIK (p:=No.bare) (g:=No.chosen m1 m2) (fun _=>rfl) (fun _=>rfl) m1.ns
 have a8:(ZDP Co.nm m2.cs).flatMap (Co.news m1.bare)=(ZDP Co.nm m2.cs).flatMap (Co.news m1):=by
  have e:Co.news m1.bare=Co.news m1:=funext fun c=>by
   unfold Co.news
   rw [show m1.bare.ns.any (fun y=>dq (y.s=c.t.s))=m1.ns.any (fun y=>dq (y.s=c.t.s)) from ZIC (p:=No.bare) (fun _=>rfl) m1.ns]
   rfl
  rw [e]
 unfold ZD1
 rw [a1,a4,a5,a6,a7,a8]
 rfl
def Mo.bare_okn {m:Mo} (h:m.okn):m.bare.okn:=⟨h.n.map fun _ h=>h,h.p,h.c,h.f.map fun _ h=>h⟩
def Mo.Good.nobrace {m:Mo} (h:m.Good): ∀f∈m.fs,123∉f.s:=fun f hf=>(h.f.2 f hf).2.2.2.1
end Go.Am.Fe
end
section
namespace Go.Am.Fe
variable {S:SF} {Q:QF}
attribute [local simp] ZbO if_pos if_neg decide_eq_true decide_eq_false Yi Yj ZgF Ops.callv List.idxOf?_cons
section
variable {e:Env} {k κ s:Nat} {c0 c1 c2 c3:C}
def ZLB {l:LP} (h:0<l.length):Zpk k 3 κ 22 e (.a (.agg [c0,c1,c2,.uniq 22 l]))=(κ,.a (.agg (ZD7 l)))::(k,.a (.agg [c0,c1,c2,.own ⟨true,κ,0⟩ 22 l.length]))::e:=by
 cases l with
 | nil=>simp at h
 | cons r l=>simp [Zpk,A.setCell,Env.set,A.cells,ZD7]
def ZLy {l:LP} {n:Nat} (h:n=l.length) (h4:Wid 22 l):Zqs k 3 κ 22 e (.a (.agg [c0,c1,c2,.own ⟨true,κ,0⟩ 22 n])) (.a (.agg (ZD7 l)))=(k,.a (.agg [c0,c1,c2,.uniq 22 l]))::(κ,.undef)::e:=by
 subst h
 have h2:l.length*22<=(ZD7 l).length:=Nat.le_of_eq (by rw [ZD7,Yh,h4.flat])
 have h3:=ZEX h4 rfl
 simp [Zqs,A.cells,A.setCell,Env.set,h2,h3,ZEz h4]
def ZLS {l:LP}:pubG k 3 e (.a (.agg [c0,c1,c2,.uniq 22 l]))=(k,.a (.agg [c0,c1,c2,.tip 22 l]))::e:=rfl
def ZLL {x:P}:pubG k 3 e (.a (.agg [c0,c1,c2,.p x]))=e:=rfl
end
def ZLm {κ s n:Nat}:C.mapR (R.down (some 0) [κ]) (.own ⟨true,κ,0⟩ s n)=some (.own ⟨false,0,0⟩ s n):=by simp [C.mapR,R.down,List.idxOf?_cons]
def ZLJ {κ s n:Nat}:C.mapR (R.up (some 0) [κ]) (.own ⟨false,0,0⟩ s n)=some (.own ⟨true,κ,0⟩ s n):=by simp [C.mapR,R.up]
def ZK9 {φ:R->Option R}: ∀l:List P,Zl9 φ (l.map C.p)=some (l.map C.p)
 | []=>rfl
 | x::l=>by simp [Zl9,C.mapR,ZK9 l]
def ZKS {φ:R->Option R} {l:LP}:Zl9 φ (ZD7 l)=some (ZD7 l):=ZK9 _
def ZK7 {l:LP}:List.map C.lone (ZD7 l)=ZD7 l:=by rw [ZD7,YK];exact YC fun _ _=>rfl
def upto {α:Type} (f:α->α) (l:List α) (j:Nat):List α:=(l.map f).take j++l.drop j
def ZKD {α:Type} {f:α->α} {l:List α} {j:Nat} (h:j<=l.length):(upto f l j).length=l.length:=by simp [upto];omega
def ZKO {α:Type} {f:α->α} {l:List α}:upto f l 0=l:=by simp [upto]
def ZKR {α:Type} {f:α->α} {l:List α}:upto f l l.length=l.map f:=by
 unfold upto
 rw [Yg Zs,List.drop_length,List.append_nil]
def ZKY {α:Type} {f:α->α} {l:List α} {j:Nat} (h:j<l.length):(upto f l j)[j]'(by rw [ZKD Zo];exact h)=l[j]:=by
 have h0:(upto f l j)[j]? =some l[j]:=by
  rw [upto,Yo (by rw [List.length_take];omega),List.length_take,Yh,Nat.min_eq_left Zo,Nat.sub_self,List.getElem?_drop,Nat.add_zero,Ya h]
 rw [Ya (by rw [ZKD Zo];exact h)] at h0
 exact Option.some.inj h0
def ZKU {α:Type} {f:α->α} {l:List α} {j:Nat} (h:j<l.length):(upto f l j).set j (f l[j])=upto f l (j+1):=by
 unfold upto
 rw [List.set_append_right _ _ (by rw [List.length_take];omega),List.length_take,Yh,Nat.min_eq_left Zo,Nat.sub_self,List.drop_eq_getElem_cons h,List.set_cons_zero,Ym,Yn,Ya h]
 simp
def ZK4 (l:List Fu):Wid 22 (l.map Fu.row):=fun r hr=>by obtain ⟨y,_,rfl⟩:=List.mem_map.1 hr;rfl
def ZLs {l:List No} {j:Nat} (h:j<l.length):List.take (j*17+7) (ZD7 ((upto No.bare l j).map No.row))++C.i 0::C.s []::C.i 0::C.i 0::C.s []::C.i 0::C.l 4 []::C.l 4 []::C.l 10 []::C.i 0::List.drop (j*17+7+10) (ZD7 ((upto No.bare l j).map No.row))=ZD7 ((upto No.bare l (j+1)).map No.row):=by
 have gz:=ZKD (f:=No.bare) (Nat.le_of_lt h)
 have gy:=ZKY (f:=No.bare) h
 have hm:(j+1)*17<=l.length*17:=YI _ h
 have gf:(ZD7 ((upto No.bare l j).map No.row)).length=l.length*17:=by rw [ZD7,Yh,(ZLp _).flat,Yh,gz]
 rw [<-ZKU h,List.map_set]
 have:=ZFq (ZLp (upto No.bare l j)) (j:=j) (o:=7) (xs:=Nd.zero.row) (by rw [Yh];omega) Zs
 rw [put,if_pos (by rw [gf];simp;omega)] at this
 simp only [Ye] at this
 have e2:((upto No.bare l j).map No.row)[j]'(by rw [Yh];omega)=l[j].row:=by rw [List.getElem_map,gy]
 rw [e2,Yu] at this
 exact this
def ZLN {l:List Fu} {j:Nat} (h:j<l.length):List.take (j*22+12) (ZD7 ((upto Fu.bare l j).map Fu.row))++C.i 0::C.s []::C.i 0::C.i 0::C.s []::C.i 0::C.l 4 []::C.l 4 []::C.l 10 []::C.i 0::List.drop (j*22+12+10) (ZD7 ((upto Fu.bare l j).map Fu.row))=ZD7 ((upto Fu.bare l (j+1)).map Fu.row):=by
 have gz:=ZKD (f:=Fu.bare) (Nat.le_of_lt h)
 have gy:=ZKY (f:=Fu.bare) h
 have hm:(j+1)*22<=l.length*22:=YI _ h
 have gf:(ZD7 ((upto Fu.bare l j).map Fu.row)).length=l.length*22:=by rw [ZD7,Yh,(ZK4 _).flat,Yh,gz]
 rw [<-ZKU h,List.map_set]
 have:=ZFq (ZK4 (upto Fu.bare l j)) (j:=j) (o:=12) (xs:=Nd.zero.row) (by rw [Yh];omega) Zs
 rw [put,if_pos (by rw [gf];simp;omega)] at this
 simp only [Ye] at this
 have e2:((upto Fu.bare l j).map Fu.row)[j]'(by rw [Yh];omega)=l[j].row:=by rw [List.getElem_map,gy]
 rw [e2,Yu] at this
 exact this
def ZLY (H:HG S) (L:HC S) (HO:S ZKE=some (.code ZKF)) {m:Mo} (hm:m.okn) (h1: ∀x∈m.ns,x.d.fit) (hf:m.fs=[])
  (HD: ∀Q:QF,Q [.one (.l 22 [])] []->Gives S Ztg [.one (.l 22 []),.one (.clo ZGk [] [])] [] Q)
  (hQ:Q [.agg m.bare.cs'] []):Gives S ZKE [.agg m.cs'] [] Q:=by
 obtain ⟨ns,pr,cs,fs⟩:=m
 dsimp only at hf h1
 subst hf
 have hn:ns.length<=100000:=hm.n.1
 refine .code HO rfl ?_
 simp(disch:=omega)[ZKF,ofC]
 refine ZLq H L (m:=⟨ns,pr,cs,[]⟩) hm h1 Zs ?_
 simp(disch:=omega)
 refine Lp.rule (fun (j:Nat)=>[fR 2,fR 3,(10,.a (pi ns.length)),(11,.a (pi j)),o9,(10002,.a (aM0)),(10003,.a (.agg [.uniq 17 ((upto No.bare ns j).map No.row),.l 3 (pr.map Pr.row),.l 9 (cs.map Co.row),.uniq 22 []]))]) (fun j=>j<=ns.length) (fun j=>ns.length-j) (a₀:=0) (by simp [ZKO]) (Yd _) ?_
 intro j k1
 by_cases hj:j<ns.length
 ·have gz:=ZKD (f:=No.bare) k1
  have gp:=ZLs hj
  have gl:(ZD7 ((upto No.bare ns j).map No.row)).length=ns.length*17:=by rw [ZD7,Yh,(ZLp _).flat,Yh,gz]
  have hmm:(j+1)*17<=ns.length*17:=YI _ hj
  have gz2:=ZKD (f:=No.bare) hj
  have gz3:((upto No.bare ns j).map No.row).length=ns.length:=by rw [Yh,gz]
  have gz4:((upto No.bare ns (j+1)).map No.row).length=ns.length:=by rw [Yh,gz2]
  simp (disch:=first|omega|exact ZLp _) [ZLa,ZEl,ZEs,gz,gl,gp,ZK8,gz2]
  exact RdN.mk (j+1) rfl hj Zo
 obtain rfl:j=ns.length:=by omega
 rw [ZKR]
 simp(disch:=omega)[ZLS]
 refine HD _ ?_
 simp(disch:=omega)
 refine Lp.rule (fun (_:Nat)=>[fR 2,fR 3,(27,.a (pi 0)),(28,.a (pi 0)),o9,(10002,.a (aM0)),(10003,.a (.agg [.uniq 17 ((ns.map No.bare).map No.row),.l 3 (pr.map Pr.row),.l 9 (cs.map Co.row),.l 22 []]))]) (fun _=>True) (fun _=>0) (a₀:=0) Zs trivial ?_
 intro j k1
 simp(disch:=omega)[ZLL,ZLz]
 rw [<-YK]
 exact hQ
def ZLT (H:HG S) (L:HC S) (HO:S ZKE=some (.code ZKG)) {m:Mo} (hm:m.okn) (h1: ∀x∈m.ns,x.d.fit) (h2: ∀x∈m.fs,x.b.fit) (hf:m.fs≠[])
  (HD: ∀Q:QF,Q [.one (.own ⟨false,0,0⟩ 22 m.fs.length)] [ZD7 (m.fs.map Fu.row)]->Gives S Ztg [.one (.own ⟨false,0,0⟩ 22 m.fs.length),.one (.clo ZGk [] [])] [ZD7 (m.fs.map Fu.row)] Q)
  (hQ:Q [.agg m.bare.cs'] []):Gives S ZKE [.agg m.cs'] [] Q:=by
 have hn:=hm.n.1
 have hl:=hm.f.1
 have hf0:0<m.fs.length:=List.length_pos_iff.2 hf
 refine .code HO rfl ?_
 simp(disch:=omega)[ZKG,ofC]
 refine ZLq H L hm h1 h2 ?_
 simp(disch:=omega)
 refine Lp.rule (fun (j:Nat)=>[fR 2,fR 3,(10,.a (pi m.ns.length)),(11,.a (pi j)),o9,(10002,.a (aM0)),(10003,.a (.agg [.uniq 17 ((upto No.bare m.ns j).map No.row),.l 3 (m.ps.map Pr.row),.l 9 (m.cs.map Co.row),.uniq 22 (m.fs.map Fu.row)]))]) (fun j=>j<=m.ns.length) (fun j=>m.ns.length-j) (a₀:=0) (by simp [ZKO]) (Yd _) ?_
 intro j k1
 by_cases hj:j<m.ns.length
 ·have gz:=ZKD (f:=No.bare) k1
  have gp:=ZLs hj
  have gl:(ZD7 ((upto No.bare m.ns j).map No.row)).length=m.ns.length*17:=by rw [ZD7,Yh,(ZLp _).flat,Yh,gz]
  have hmm:(j+1)*17<=m.ns.length*17:=YI _ hj
  have gz2:=ZKD (f:=No.bare) hj
  have gz3:((upto No.bare m.ns j).map No.row).length=m.ns.length:=by rw [Yh,gz]
  have gz4:((upto No.bare m.ns (j+1)).map No.row).length=m.ns.length:=by rw [Yh,gz2]
  simp (disch:=first|omega|exact ZLp _) [ZLa,ZEl,ZEs,gz,gl,gp,ZK8,gz2]
  exact RdN.mk (j+1) rfl hj Zo
 obtain rfl:j=m.ns.length:=by omega
 rw [ZKR]
 have gm:(m.fs.map Fu.row).length=m.fs.length:=Yh _
 simp(disch:=omega)[ZLB,ZEl,ZEs,ZLm,ZKS,ZK7]
 refine HD _ ?_
 simp (disch:=first|omega|exact ZK4 _) [ZEl,ZEs,ZLy,ZLJ,ZKS]
 refine Lp.rule (fun (j:Nat)=>[fR 2,fR 3,(27,.a (pi m.fs.length)),(28,.a (pi j)),o9,(10002,.a (aM0)),(10003,.a (.agg [.uniq 17 ((m.ns.map No.bare).map No.row),.l 3 (m.ps.map Pr.row),.l 9 (m.cs.map Co.row),.uniq 22 ((upto Fu.bare m.fs j).map Fu.row)]))]) (fun j=>j<=m.fs.length) (fun j=>m.fs.length-j) (a₀:=0) (by simp [ZKO]) (Yd _) ?_
 intro j k1
 by_cases hj:j<m.fs.length
 ·have gz:=ZKD (f:=Fu.bare) k1
  have gp:=ZLN hj
  have gl:(ZD7 ((upto Fu.bare m.fs j).map Fu.row)).length=m.fs.length*22:=by rw [ZD7,Yh,(ZK4 _).flat,Yh,gz]
  have hmm:(j+1)*22<=m.fs.length*22:=YI _ hj
  have gz2:=ZKD (f:=Fu.bare) hj
  have gz3:((upto Fu.bare m.fs j).map Fu.row).length=m.fs.length:=by rw [Yh,gz]
  have gz4:((upto Fu.bare m.fs (j+1)).map Fu.row).length=m.fs.length:=by rw [Yh,gz2]
  simp (disch:=first|omega|exact ZK4 _) [ZLB,ZEl,ZEs,gz,gl,gp,ZLy,gz2]
  exact RdN.mk (j+1) rfl hj Zo
 obtain rfl:j=m.fs.length:=by omega
 rw [ZKR]
 simp(disch:=omega)[ZLS,ZLz]
 rw [<-YK,<-YK]
 exact hQ
end Go.Am.Fe
end
section
namespace Go.Am.Fe
variable {S:SF} {Q:QF}
attribute [local simp] ZbO if_pos if_neg decide_eq_true decide_eq_false Yi Yj ZgF
def ZKP {m:Mo} (h:m.Good):ZD1 m m=[]:=
 ZKV h (fun _ _ hi e=>⟨hi,by rw [e];exact No.Ext.rfl⟩) rfl rfl (ef:=[]) (List.append_nil _).symm Zs
def ZKL (H:HG S) (HL:S ZGx=some (.code ZKx))
  (HA: ∀Q:QF,Q [pb true] []->Gives S Zd3 [] [] Q)
  (HO: ∀(Q:QF) (m:Mo),m.Good->Q [.agg m.bare.cs'] []->Gives S ZKE [.agg m.cs'] [] Q) {src:LN}
  (HT: ∀Q:QF,(∀(m:Mo) (ok:Bool),m.Good->Q [.agg m.cs',pb ok] [])->Gives S Zgf [ps src,pi 4000] [] Q)
  (hQ:Q [pb true] []):Gives S ZGx [ps src] [] Q:=by
 refine .code HL rfl ?_
 simp(disch:=omega)[ZKx]
 refine HT _ fun m ok hm=>?_
 cases ok
 ·simp(disch:=omega)
  refine HA _ ?_
  simp(disch:=omega)
  exact hQ
 have e1:=ZKP hm
 have e2:ZD1 m.bare m=[]:=by rw [ZH6,e1]
 have c1:=fun Q=>ZEh (Q:=Q) (m1:=m) (m2:=m) H hm.okn hm.okn (by rw [e1];simp)
 have c2:=fun Q=>ZEh (Q:=Q) (m1:=m.bare) (m2:=m) H (Mo.bare_okn hm.okn) hm.okn (by rw [e2];simp)
 rw [e1,ZDz rfl] at c1
 rw [e2,ZDz rfl] at c2
 simp(disch:=omega)
 refine c1 _ ?_
 simp(disch:=omega)
 refine HO _ m hm ?_
 simp(disch:=omega)
 refine c2 _ ?_
 simp(disch:=omega)
 refine HA _ ?_
 simp(disch:=omega)
 exact hQ
end Go.Am.Fe
end
