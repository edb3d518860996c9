/- Part. -/
import Derived.Test.YtcdpeppblcijfaaGreatDoorXav
set_option maxRecDepth 999999
set_option maxHeartbeats 0
set_option linter.all false
section
namespace Go.Am.Fe
variable {S:SF} {Q:QF}
attribute [local simp] ZbO if_pos if_neg decide_eq_true decide_eq_false List.getElem?_cons_zero List.getElem?_cons_succ ZgF Ops.callv List.idxOf?_cons
structure Mo.okn (m:Mo):Prop where
 n:Ok No.okn m.ns
 p:Ok Pr.ok m.ps
 c:Ok Co.okn m.cs
 f:Ok Fu.okn m.fs
theorem Ok.imp {α:Type} {p q:α->Prop} {l:List α} (h:Ok p l) (hf: ∀x,p x->q x):Ok q l:=⟨h.1,fun x hx=>hf x (h.2 x hx)⟩
def Mo.lacks (m:Mo) (f:Fu):Prop:= ∀g∈m.fs,¬f.ent g
noncomputable def Mo.beside (m:Mo) (f:Fu):Bool:=m.fs.any fun g=>dq (bse g.s=bse f.s/\g.ps.length=f.ps.length)
noncomputable def ZEb (m1 m2:Mo) (j:Nat):List Rz:=((m1.free.take j).filter fun f=>dq (m2.lacks f)).map fun f=>(7,ZDJ [f.s])
noncomputable def ZEa (m1 m2:Mo) (j:Nat):List Rz:=((m2.free.take j).filter fun f=>dq (m1.lacks f) && m1.beside f).map fun f=>(8,ZDJ [f.s])
theorem ZFl {m1 m2:Mo} {j:Nat} (hj:j<m1.free.length) (h:m2.lacks m1.free[j]):ZEb m1 m2 (j+1)=ZEb m1 m2 j++[(7,ZDJ [m1.free[j].s])]:=by
 rw [ZEb,ZD4 hj (ZDz h),List.map_append];rfl
theorem ZFR {m1 m2:Mo} {j:Nat} (hj:j<m1.free.length) (h: ¬m2.lacks m1.free[j]):ZEb m1 m2 (j+1)=ZEb m1 m2 j:=by
 rw [ZEb,ZEc hj (ZDy h)];rfl
theorem ZFV {m1 m2:Mo} {i j:Nat} (h:i<=j):(ZEb m1 m2 i).length<=(ZEb m1 m2 j).length:=by
 rw [ZEb,ZEb,List.length_map,List.length_map];exact ZDK h
theorem ZFj {m1 m2:Mo} {j:Nat} (hj:j<m2.free.length) (h:m1.lacks m2.free[j]) (h':m1.beside m2.free[j]=true):ZEa m1 m2 (j+1)=ZEa m1 m2 j++[(8,ZDJ [m2.free[j].s])]:=by
 rw [ZEa,ZD4 hj (by rw [ZDz h,h'];rfl),List.map_append];rfl
theorem ZE1 {m1 m2:Mo} {j:Nat} (hj:j<m2.free.length) (h:m1.lacks m2.free[j]->m1.beside m2.free[j]=false):ZEa m1 m2 (j+1)=ZEa m1 m2 j:=by
 rw [ZEa,ZEc hj (by
  by_cases hl:m1.lacks m2.free[j]
  ·rw [h hl,Bool.and_false]
  ·rw [ZDy hl,Bool.false_and])];rfl
theorem ZFK {m1 m2:Mo} {i j:Nat} (h:i<=j):(ZEa m1 m2 i).length<=(ZEa m1 m2 j).length:=by
 rw [ZEa,ZEa,List.length_map,List.length_map];exact ZDK h
noncomputable def ZD1 (m1 m2:Mo):List Rz:=
 (ZDP No.s m1.ns).flatMap (No.rs m2)++(ZDP Pr.s m1.ps).flatMap (Pr.rs m2)++(ZDP Co.nm m1.cs).flatMap (Co.rsn m2)++ZEb m1 m2 m1.free.length++ZEa m1 m2 m2.free.length++
  (ZDP Pr.s m2.ps).flatMap (Pr.chosen m1)++(ZDP No.s m1.ns).flatMap (No.chosen m1 m2)++(ZDP Co.nm m2.cs).flatMap (Co.news m1)
theorem ZEw {F:ZaQ} {s:Nat} {rows:List (List P)} {h n:Int} (h0:0<=h) (h1:h<=rows.length) (h2:h<=n) (h3:n<=rows.length):ZaI F (.slice s false true true) [.a (.one (.p (.sl s rows))),.a (.one (.p (.int .i64 h))),.a (.one (.p (.int .i64 n)))]=some [.a (.one (.p (.sl s (rows.take h.toNat))))]:=by
 have e1:h.toNat<=rows.length:=by omega
 have e2:((h.toNat:Nat):Int)<=n:=by omega
 simp only [ZaI,Zh5,C.rows,ZbX,Zme,h0,e1,if_true,Bool.false_eq_true,if_false,Nat.zero_le,true_and,e2,h3,one,List.drop_zero]
theorem ZFH (H:HG S) {m1 m2:Mo} (h1:m1.okn) (h2:m2.okn) (hb:(ZD1 m1 m2).length<68719476736) (hQ:Q [.one (.p (.sl 2 ((rzs (ZD1 m1 m2)).take 100)))] []):Gives S Zf7 [.agg m1.cs',.agg m2.cs'] [] Q:=by
 have n1:=h1.n.imp fun x hx=>hx.1
 have n2:=h2.n.imp fun x hx=>hx.1
 refine .code H.ifaceReasons rfl ?_
 simp (disch:=omega)[Zl0,cloR]
 unfold ZD1 at hb hQ
 refine ZFb (N:=Zci) (s:=17) H.ifaceFirstApiNominalq rfl (first:=[⟨false,0,0⟩]) (caps:=[]) (st:=fun b=>[RS m1 m2 b]) (K:=1) (f:=No.s) (R:=No.rs m2) h1.n.1 (fun _ _=>rfl) (fun b=>Pass.dat rfl) (fun _=>rfl) (by simp [PassR]) PassR.nil (fun x hx b Q hQ=>?_) (fun x hx b Q hb hQ=>?_) (b:=[]) ?_ ?_
 ·refine .code H.ifaceNominalNameq rfl ?_
  simp (disch:=omega)[ZiM]
  exact hQ
 ·obtain ⟨i,hi,rfl,_⟩:=ZDI hx
  simp [ZDB]
  exact ZFM H h2.n (h1.n.get hi) hb hQ
 ·simp only [List.length_append,List.length_nil] at hb⊢;omega
 rw [List.nil_append]
 generalize (ZDP No.s m1.ns).flatMap (No.rs m2)=b1 at hb hQ⊢
 simp (disch:=omega)[cloR]
 refine ZFb (N:=Zb4) (s:=3) H.ifaceFirstApiProtocolq rfl (first:=[]) (caps:=[⟨false,0,0⟩,⟨false,1,0⟩]) (st:=st3 m1 m2 m2) (K:=3) (f:=Pr.s) (R:=Pr.rs m2) h1.p.1 (fun _ _=>rfl) (fun b=>ZEn) (fun _=>rfl) PassR.nil (by simp [PassR]) (fun x hx b Q hQ=>?_) (fun x hx b Q hb hQ=>?_) (b:=b1) ?_ ?_
 ·refine .code H.ifaceProtocolNameq rfl ?_
  simp (disch:=omega)[Zh8]
  exact hQ
 ·obtain ⟨i,hi,rfl,_⟩:=ZDI hx
  simp [ZDB]
  exact ZGV H h2.p (h1.p.get hi) hb hQ
 ·simp only [List.length_append] at hb⊢;omega
 generalize b1++(ZDP Pr.s m1.ps).flatMap (Pr.rs m2)=b2 at hb hQ⊢
 simp (disch:=omega)[cloR]
 refine ZFb (N:=ZcV) (s:=9) H.ifaceFirstApiConfq rfl (first:=[]) (caps:=[⟨false,0,0⟩,⟨false,1,0⟩]) (st:=st3 m1 m2 m2) (K:=3) (f:=Co.nm) (R:=Co.rsn m2) h1.c.1 (fun _ _=>rfl) (fun b=>ZEn) (fun _=>rfl) PassR.nil (by simp [PassR]) (fun x hx b Q hQ=>ZEA H (h1.c.2 x hx).1 ZEn hQ) (fun x hx b Q hb hQ=>?_) (b:=b2) ?_ ?_
 ·obtain ⟨i,hi,rfl,_⟩:=ZDI hx
  simp [ZDB]
  exact ZGS H h2.c (h1.c.get hi) hb hQ
 ·simp only [List.length_append] at hb⊢;omega
 generalize b2++(ZDP Co.nm m1.cs).flatMap (Co.rsn m2)=b3 at hb hQ⊢
 simp (disch:=omega)
 refine ZGu H h1.f.1 (h1.c.imp fun x hx=>hx.1.1) ?_
 have f1:m1.free.length<=100000:=Nat.le_trans Mo.freeTo_len h1.f.1
 simp (disch:=omega)
 refine Lp.rule (fun (j:Nat)=>[fR 2,fR 3,fR 5,(36,.a (.one (.p (.sl 22 (m1.free.map Fu.row))))),(37,.a (pi m1.free.length)),(38,.a (pi j)),o9,
  (10002,.a (.agg m1.cs')),(10003,.a (.agg m2.cs')),(10005,.a (.agg [.ref ⟨true,10020,0⟩])),(10020,.a (.agg (RS m1 m2 (b3++ZEb m1 m2 j))))]) (fun j=>j<=m1.free.length) (fun j=>m1.free.length-j) (a₀:=0) (by simp [ZEb]) (Nat.zero_le _) ?_
 intro j k1
 by_cases hj:j<m1.free.length
 ·obtain ⟨i,hi,_,hfi⟩:=Mo.free_mem (List.getElem_mem hj)
  have hok:=h1.f.get hi
  rw [hfi] at hok
  have hok1:=hok.1.1.1
  have hle:=ZFV (m1:=m1) (m2:=m2) (i:=j+1) hj
  simp (disch:=omega)
  refine ZF1 H (m:=m2) h2.f hok (fun h=>?_) (fun i' hi' h h'=>?_)
  ·have hy:=ZFl (m2:=m2) hj h
   simp (disch:=omega)
   refine ZEi H (l:=b3++ZEb m1 m2 j) (ns:=[m1.free[j].s]) Zs Ze (by rw [List.append_assoc,<-hy];simp at hb⊢;omega) ?_
   simp (disch:=omega)
   exact RdN.mk (j+1) (by rw [hy];simp) hj Zo
  ·have hy:=ZFR (m2:=m2) hj fun hl=>hl _ (List.getElem_mem hi') h
   simp (disch:=omega)
   exact RdN.mk (j+1) (by rw [hy];simp) hj Zo
 ·rw [show j=m1.free.length by omega]
  generalize b3++ZEb m1 m2 m1.free.length=b4 at hb hQ⊢
  simp (disch:=omega)
  refine ZGu H h2.f.1 (h2.c.imp fun x hx=>hx.1.1) ?_
  have f2:m2.free.length<=100000:=Nat.le_trans Mo.freeTo_len h2.f.1
  simp (disch:=omega)
  refine Lp.rule (fun (j:Nat)=>[fR 2,fR 3,fR 5,(57,.a (.one (.p (.sl 22 (m2.free.map Fu.row))))),(58,.a (pi m2.free.length)),(59,.a (pi j)),o9,
   (10002,.a (.agg m1.cs')),(10003,.a (.agg m2.cs')),(10005,.a (.agg [.ref ⟨true,10020,0⟩])),(10020,.a (.agg (RS m1 m2 (b4++ZEa m1 m2 j))))]) (fun j=>j<=m2.free.length) (fun j=>m2.free.length-j) (a₀:=0) (by simp [ZEa]) (Nat.zero_le _) ?_
  intro j k1
  by_cases hj:j<m2.free.length
  ·obtain ⟨i,hi,_,hfi⟩:=Mo.free_mem (List.getElem_mem hj)
   have hok:=h2.f.get hi
   rw [hfi] at hok
   have hok1:=hok.1.1.1
   have hle:=ZFK (m1:=m1) (m2:=m2) (i:=j+1) hj
   simp (disch:=omega)
   refine ZF1 H (m:=m1) h1.f hok (fun h=>?_) (fun i' hi' h h'=>?_)
   ·simp (disch:=omega)
    refine ZFO H Zo ?_
    simp (disch:=omega)[cloR]
    refine ZFa H.slicesContainsFuncLApiFuncApiFunc H.slicesIndexFuncLApiFuncApiFunc h1.f.1 (fun _ _=>rfl) (os:=[(m2.free[j].row.map .p),[.p (.str (bse m2.free[j].s))]]) (caps:=[⟨false,1,0⟩,⟨false,0,0⟩]) (p:=fun g=>dq (bse g.s=bse m2.free[j].s/\g.ps.length=m2.free[j].ps.length)) (Pass.dat rfl) PassR.nil (by simp [PassR]) (fun g hg Q hQ=>?_) ?_
    ·simp [ZDB]
     have hg2:=(h1.f.2 g hg).1.2.2.2.1.1
     have hg3:=hok.1.2.2.2.1.1
     refine .code H.ifaceReasonsX3 rfl ?_
     simp (disch:=omega)[ZkY]
     refine ZFO H (by have:=(h1.f.2 g hg).1.1.1;omega) ?_
     simp (disch:=omega)
     by_cases e1:bse g.s=bse m2.free[j].s
     ·by_cases e2:g.ps.length=m2.free[j].ps.length
      ·rw [ZDz ⟨e1,e2⟩] at hQ
       simp (disch:=omega)[e1,e2]
       exact hQ
      ·rw [ZDy fun h=>e2 h.2] at hQ
       simp (disch:=omega)[e1,e2]
       exact hQ
     ·rw [ZDy fun h=>e1 h.1] at hQ
      simp (disch:=omega)[e1]
      exact hQ
    ·cases hbe:m1.beside m2.free[j]
     ·have hy:=ZE1 (m1:=m1) hj fun _=>hbe
      rw [Mo.beside] at hbe
      rw [hbe]
      simp (disch:=omega)
      exact RdN.mk (j+1) (by rw [hy];simp) hj Zo
     ·have hy:=ZFj (m1:=m1) hj h hbe
      rw [Mo.beside] at hbe
      rw [hbe]
      simp (disch:=omega)
      refine ZEi H (l:=b4++ZEa m1 m2 j) (ns:=[m2.free[j].s]) Zs Ze (by rw [List.append_assoc,<-hy];simp at hb⊢;omega) ?_
      simp (disch:=omega)
      exact RdN.mk (j+1) (by rw [hy];simp) hj Zo
   ·have hy:=ZE1 (m1:=m1) hj fun hl=>absurd h (hl _ (List.getElem_mem hi'))
    simp (disch:=omega)
    exact RdN.mk (j+1) (by rw [hy];simp) hj Zo
  ·rw [show j=m2.free.length by omega]
   generalize b4++ZEa m1 m2 m2.free.length=b5 at hb hQ⊢
   simp (disch:=omega)
   refine ZGj H (m1:=m1) (m2:=m2) n1 n2 h1.p h2.p (b:=b5) (by simp only [List.length_append] at hb⊢;omega) ?_
   generalize b5++(ZDP Pr.s m2.ps).flatMap (Pr.chosen m1)++(ZDP No.s m1.ns).flatMap (No.chosen m1 m2)=b6 at hb hQ⊢
   simp (disch:=omega)[cloR]
   refine ZFb (N:=ZcV) (s:=9) H.ifaceFirstApiConfq rfl (first:=[]) (caps:=[⟨false,0,0⟩,⟨false,1,0⟩]) (st:=st3 m1 m2 m1) (K:=3) (f:=Co.nm) (R:=Co.news m1) h2.c.1 (fun _ _=>rfl) (fun b=>ZEn) (fun _=>rfl) PassR.nil (by simp [PassR]) (fun x hx b Q hQ=>ZEA H (h2.c.2 x hx).1 ZEn hQ) (fun x hx b Q hb hQ=>?_) (b:=b6) hb ?_
   ·obtain ⟨i,hi,rfl,_⟩:=ZDI hx
    simp [ZDB]
    exact ZGU H n1 h1.p h1.c (h2.c.get hi) hb hQ
   ·generalize b6++(ZDP Co.nm m2.cs).flatMap (Co.news m1)=b7 at hb hQ⊢
    have hrl:=ZFe (l:=b7)
    by_cases hlen:100<(rzs b7).length
    ·simp (disch:=omega)[hlen,ZEw]
     exact hQ
    ·rw [List.take_of_length_le Zo] at hQ
     simp (disch:=omega)[hlen,ZEw]
     exact hQ
theorem ZEh (H:HG S) {m1 m2:Mo} (h1:m1.okn) (h2:m2.okn) (hb:(ZD1 m1 m2).length<68719476736) (hQ:Q [pb (dq (ZD1 m1 m2=[]))] []):Gives S Zgo [.agg m1.cs',.agg m2.cs'] [] Q:=by
 refine .code H.ifaceCompatible rfl ?_
 simp (disch:=omega)[Zkc]
 refine ZFH H h1 h2 hb ?_
 have hl:((rzs (ZD1 m1 m2)).take 100).length=min 100 (ZD1 m1 m2).length:=by rw [List.length_take,ZFe]
 by_cases e:ZD1 m1 m2=[]
 ·rw [ZDz e] at hQ
  simp (disch:=omega)[e,rzs]
  exact hQ
 ·rw [ZDy e] at hQ
  have:0<(ZD1 m1 m2).length:=List.length_pos_iff.2 e
  generalize (rzs (ZD1 m1 m2)).take 100=z at hl⊢
  simp (disch:=omega)
  have hz:z≠[]:=by rintro rfl;simp at hl;omega
  simpa [hz] using hQ
end Go.Am.Fe
end
section
namespace Go.Am.Fe
theorem RowsOf.lift {α:Type} {R:List P->Prop} {row:α->List P} {p:α->Prop} {l:List (List P)} (h:RowsOf R l) (hR: ∀r,R r-> ∃x,row x=r/\p x): ∃L:List α,L.map row=l/\Ok p L:=by
 obtain ⟨h1,h2⟩:=h
 suffices∃L:List α,L.map row=l/\ ∀x∈L,p x by
   obtain ⟨L,e,hp⟩:=this
   exact ⟨L,e,by rw [<-e,List.length_map] at h1;exact h1,hp⟩
 clear h1
 induction l with
 | nil=>exact ⟨[],rfl,fun _ h=>nomatch h⟩
 | cons r l ih=>
   obtain ⟨L,e,hp⟩:=ih fun x hx=>h2 x (List.mem_cons_of_mem _ hx)
   obtain ⟨x,ex,hx⟩:=hR r (h2 r List.mem_cons_self)
   exact ⟨x::L,by simp [e,ex],fun y hy=>(List.mem_cons.1 hy).elim (fun h=>h ▸ hx) (hp y)⟩
theorem FTy.lift {m:Nat} {k n:Int} {s:List Nat} {a:List (List P)} (h:FTy m [.int .i64 k,.str s,.int .i64 n,.sl 4 a]): ∃t:Ty,(t.fit/\t.fw)/\t.k=k/\t.s=s/\t.n=n/\Ty.encs t.a=a:=by
 obtain ⟨⟨k',s',n',a'⟩,e,h1,_⟩:=h
 simp only [Ty.enc,List.cons.injEq,P.int.injEq,P.str.injEq,P.sl.injEq,true_and,and_true] at e
 obtain ⟨rfl,rfl,rfl,rfl⟩:=e
 exact ⟨_,⟨h1,Ty.fit_fw _ h1⟩,rfl,rfl,rfl,rfl⟩
theorem FTys.lift {m:Nat} {l:List (List P)} (h:FTys m l): ∃L:List Ty,Ty.encs L=l/\Ok Ty.fw L:=by
 obtain ⟨L,e,h1,h2,_⟩:=h
 exact ⟨L,e,h1,Ty.fws_mem (Ty.fits_fw _ h2)⟩
theorem FNd.lift {mm:Nat} {o n k m z:Int} {s u:List Nat} {a t l:List (List P)} (h:FNd mm [.int .i64 o,.str s,.int .i64 n,.int .i64 k,.str u,.int .i64 m,.sl 4 a,.sl 4 t,.sl 10 l,.int .i64 z]):
  ∃x:Nd,x.fit/\x.row=[.int .i64 o,.str s,.int .i64 n,.int .i64 k,.str u,.int .i64 m,.sl 4 a,.sl 4 t,.sl 10 l,.int .i64 z]:=by
 obtain ⟨x,e,h1,_⟩:=h
 exact ⟨x,h1,by rw [<-e,Nd.enc_row]⟩
theorem PaR.lift (r:List P) (h:PaR r): ∃x:Pa,x.row=r/\x.ok:=by
 obtain ⟨m,s,o,k,n,u,a,rfl,h1,h2⟩:=h
 obtain ⟨t,ht,rfl,rfl,rfl,rfl⟩:=h2.lift
 exact ⟨⟨s,o,t⟩,rfl,h1,ht.2⟩
theorem MeR.lift (r:List P) (h:MeR r): ∃x:Me,x.row=r/\x.ok:=by
 obtain ⟨m1,m2,s,ps,k1,n1,k2,n2,s1,s2,a1,a2,rfl,h1,h2,h3,h4⟩:=h
 obtain ⟨L,rfl,hL⟩:=h2.lift PaR.lift
 obtain ⟨t,ht,rfl,rfl,rfl,rfl⟩:=h3.lift
 obtain ⟨v,hv,rfl,rfl,rfl,rfl⟩:=h4.lift
 exact ⟨⟨s,L,t,v⟩,rfl,h1,hL,ht.2,hv.2⟩
theorem AsR.lift (r:List P) (h:AsR r): ∃x:As,x.row=r/\x.ok:=by
 obtain ⟨s,bs,rfl,h1,h2⟩:=h
 exact ⟨⟨s,bs⟩,rfl,h1,h2.1⟩
theorem PrR.lift (r:List P) (h:PrR r): ∃x:Pr,x.row=r/\x.ok:=by
 obtain ⟨s,as,ms,rfl,h1,h2,h3⟩:=h
 obtain ⟨L,rfl,hL⟩:=h2.lift AsR.lift
 obtain ⟨M,rfl,hM⟩:=h3.lift MeR.lift
 exact ⟨⟨s,L,M⟩,rfl,h1,hL,hM⟩
theorem FiR.lift (r:List P) (h:FiR r): ∃x:Fi,x.row=r/\x.ok:=by
 obtain ⟨m,s,k,n,u,a,b,rfl,h1,h2⟩:=h
 obtain ⟨t,ht,rfl,rfl,rfl,rfl⟩:=h2.lift
 exact ⟨⟨s,t,b⟩,rfl,h1,ht.2⟩
theorem CaR.lift (r:List P) (h:CaR r): ∃x:Ca,x.row=r/\x.ok:=by
 obtain ⟨m,s,ts,b,rfl,h1,h2⟩:=h
 obtain ⟨L,rfl,hL⟩:=h2.lift
 exact ⟨⟨s,L,b⟩,rfl,h1,hL⟩
structure No.Good (x:No):Prop where
 ok:x.okn
 f:(x.fs.map Fi.s).Nodup
 c:(x.cs.map Ca.s).Nodup
 fl:x.fs.length<=90000
 cl:x.cs.length<=90000
theorem NoR.lift (r:List P) (h:NoR r): ∃x:No,x.row=r/\x.Good:=by
 obtain ⟨mm,s,kd,gs,b1,b2,fs,cs,o,n,k,m,z,s1,u,a,t,l,rfl,h1,h2,h3,h4,h5,h6,h7,h8,h9⟩:=h
 obtain ⟨L,rfl,hL⟩:=h3.lift FiR.lift
 obtain ⟨M,rfl,hM⟩:=h4.lift CaR.lift
 obtain ⟨x,hx,ex⟩:=h5.lift
 replace h9:=h9.1
 rw [List.length_map] at h8 h9
 have e1:nmL (L.map Fi.row)=L.map Fi.s:=by simp only [nmL,List.map_map];rfl
 have e2:nmL (M.map Ca.row)=M.map Ca.s:=by simp only [nmL,List.map_map];rfl
 rw [e1] at h6
 rw [e2] at h7
 refine ⟨⟨s,kd,gs,b1,b2,L,M,x⟩,?_,⟨⟨h1,h2.1,hL,hM⟩,h2⟩,h6,h7,h8,h9⟩
 simp only [List.cons.injEq,P.int.injEq,P.str.injEq,P.sl.injEq,true_and,and_true] at ex⊢
 exact ex
theorem ReR.lift (r:List P) (h:ReR r): ∃x:Re,x.row=r/\x.ok:=by
 obtain ⟨m1,m2,o,s,k1,n1,k2,n2,s1,s2,a1,a2,rfl,h1,h3,h4⟩:=h
 obtain ⟨t,ht,rfl,rfl,rfl,rfl⟩:=h3.lift
 obtain ⟨v,hv,rfl,rfl,rfl,rfl⟩:=h4.lift
 exact ⟨⟨o,t,s,v⟩,rfl,h1,ht.2,hv.2⟩
theorem CoR.lift (r:List P) (h:CoR r): ∃x:Co,x.row=r/\x.okn:=by
 obtain ⟨m1,m2,s,k,n,u,a,gs,qs,ts,fs,rfl,h1,h2,h3,h4,h5,h6⟩:=h
 obtain ⟨t,ht,rfl,rfl,rfl,rfl⟩:=h2.lift
 obtain ⟨L,rfl,hL⟩:=h4.lift ReR.lift
 obtain ⟨M,rfl,hM⟩:=h5.lift
 exact ⟨⟨s,t,gs,L,M,fs⟩,rfl,⟨⟨h1,ht.2,h3.1,hL,hM,h6.1.1⟩,by cases t;exact ht.1.1.1⟩,h3⟩
theorem Ty.of_kty {gs:List (List Nat)} {t:Ty} (h:KTy gs [.int .i64 t.k,.str t.s,.int .i64 t.n,.sl 4 (Ty.encs t.a)]):t.kn gs:=by
 obtain ⟨u,e,g⟩:=h
 obtain rfl:u=t:=Ty.enc_inj (by rw [e];cases t;rfl)
 exact g
structure Fu.kn (x:Fu):Prop where
 nd:x.gs.Nodup
 rs: ∀q∈x.rs,q.t.kn x.gs/\q.o.kn x.gs
 ps: ∀p∈x.ps,p.t.kn x.gs
 r:x.r.kn x.gs
 e:x.e.kn x.gs
theorem FuR.lift (r:List P) (h:FuR r): ∃x:Fu,x.row=r/\x.okn/\(47∈x.s∨58∈x.s)/\x.kn:=by
 obtain ⟨mm,m1,m2,s,gs,qs,ps,k1,n1,k2,n2,s1,s2,a1,a2,o,n,k,m,z,s3,u,a,t,l,rfl,h1,h2,h3,h4,h5,h6,h7,k1,k2,k3,k4,k5⟩:=h
 obtain ⟨L,rfl,hL⟩:=h3.lift ReR.lift
 obtain ⟨M,rfl,hM⟩:=h4.lift PaR.lift
 obtain ⟨v,hv,rfl,rfl,rfl,rfl⟩:=h5.lift
 obtain ⟨w,hw,rfl,rfl,rfl,rfl⟩:=h6.lift
 obtain ⟨x,hx,ex⟩:=h7.lift
 refine ⟨⟨s,gs,L,M,v,w,x⟩,?_,⟨⟨h1.1,h2.1,hL,hM,hv.2,hw.2⟩,h2⟩,h1.2,k1,fun q hq=>?_,fun p hp=>?_,Ty.of_kty k4,Ty.of_kty k5⟩
 ·simp only [List.cons.injEq,P.int.injEq,P.str.injEq,P.sl.injEq,true_and,and_true] at ex⊢
  exact ex
 ·have h:=k2 _ (List.mem_map_of_mem hq)
  exact ⟨Ty.of_kty h.1,Ty.of_kty h.2⟩
 ·exact Ty.of_kty (k3 _ (List.mem_map_of_mem hp))
structure Mo.Good (m:Mo):Prop where
 n:Ok No.Good m.ns
 p:Ok Pr.ok m.ps
 c:Ok Co.okn m.cs
 f:Ok (fun x=>x.okn/\(47∈x.s∨58∈x.s)/\x.kn) m.fs
theorem Mo.Good.okn {m:Mo} (h:m.Good):m.okn:=⟨h.n.imp fun _ h=>h.ok,h.p,h.c,h.f.imp fun _ h=>h.1⟩
theorem ZFr {noms pro cfs fns:List (List P)} (h1:RowsOf NoR noms) (h2:RowsOf PrR pro) (h3:RowsOf CoR cfs) (h4:RowsOf FuR fns): ∃m:Mo,m.Good/\m.ns.map No.row=noms/\m.ps.map Pr.row=pro/\m.cs.map Co.row=cfs/\m.fs.map Fu.row=fns:=by
 obtain ⟨a,ea,ha⟩:=h1.lift NoR.lift
 obtain ⟨b,eb,hb⟩:=h2.lift PrR.lift
 obtain ⟨c,ec,hc⟩:=h3.lift CoR.lift
 obtain ⟨d,ed,hd⟩:=h4.lift FuR.lift
 exact ⟨⟨a,b,c,d⟩,⟨ha,hb,hc,hd⟩,ea,eb,ec,ed⟩
theorem Ty.put_self (gs:List (List Nat)): ∀(n:Nat) (t:Ty),t.sz<n->t.fw->t.put gs gs=t
 | 0,_,h,_=>absurd h (Nat.not_lt_zero _)
 | n+1,t,hs,ht=>by
   unfold Ty.put Ty.sub
   cases hp:t.pick gs (gs.map Ty.par) with
   | some u=>
     rw [Ty.rep_some hp]
     unfold Ty.pick at hp
     split at hp
     · rename_i hc
       have hi:=List.idxOf_lt_length_iff.2 hc.2
       rw [List.getElem?_map,List.getElem?_eq_getElem hi,Option.map_some,List.getElem_idxOf hi] at hp
       injection hp with hp
       obtain ⟨k,s,m,a⟩:=t
       obtain ⟨_,h7,_⟩:=ht
       obtain rfl:k=7:=hc.1
       obtain ⟨rfl,rfl⟩:=h7 rfl
       exact hp.symm
     · cases hp
   | none=>
     rw [Ty.rep_none hp]
     obtain ⟨k,s,m,a⟩:=t
     obtain ⟨h2,h3,h4⟩:=ht
     show Ty.mk k s m (a.map _)=_
     rw [show a.map (Ty.rep (Ty.pick gs (gs.map Ty.par)))=a from (List.map_congr_left fun x hx=>by
       obtain ⟨j,hj,rfl⟩:=List.getElem_of_mem hx
       exact Ty.put_self gs n _ (by have:=Ty.szs_get hj;simp [Ty.sz] at hs this⊢;omega) (Ty.fws_get h4 hj)).trans (List.map_id a)]
theorem Ty.put_id {gs:List (List Nat)} {t:Ty} (h:t.fw):t.put gs gs=t:=Ty.put_self gs _ t (Nat.lt_succ_self _) h
theorem ZEf {α:Type} {l:List α} {f:α->α} (h: ∀x∈l,f x=x):l.map f=l:=(List.map_congr_left h).trans (List.map_id l)
theorem Re.put_id {gs:List (List Nat)} {x:Re} (h:x.ok):x.put gs gs=x:=by unfold Re.put;rw [Ty.put_id h.2.1,Ty.put_id h.2.2]
theorem Pa.put_id {gs:List (List Nat)} {x:Pa} (h:x.ok):x.put gs gs=x:=by unfold Pa.put;rw [Ty.put_id h.2]
theorem Fi.put_id {gs:List (List Nat)} {x:Fi} (h:x.ok):x.put gs gs=x:=by unfold Fi.put;rw [Ty.put_id h.2]
theorem Ca.put_id {gs:List (List Nat)} {x:Ca} (h:x.ok):x.put gs gs=x:=by unfold Ca.put;rw [ZEf fun t ht=>Ty.put_id (h.2.2 t ht)]
theorem Fu.ent_self {f:Fu} (h:f.okn):f.ent f:=by
 obtain ⟨⟨_,_,h3,h4,h5,h6⟩,_⟩:=h
 exact ⟨rfl,rfl,rfl,(ZEf fun x hx=>Re.put_id (h3.2 x hx)).symm,by rw [ZEf fun x hx=>Pa.put_id (h4.2 x hx)],(Ty.put_id h5).symm,(Ty.put_id h6).symm⟩
theorem Co.sim_self {c:Co} (h:c.okn):c.sim c:=by
 obtain ⟨⟨⟨_,_,_,h4,h5,_⟩,_⟩,_⟩:=h
 exact ⟨rfl,(ZEf fun x hx=>Re.put_id (h4.2 x hx)).symm,(ZEf fun x hx=>Ty.put_id (h5.2 x hx)).symm,rfl⟩
theorem At.more {α:Type} {f:α->List Nat} {l:List α} (nd:(l.map f).Nodup) {x:α} (hx:x∈l) (e:List α): ∃(i:Nat) (h:At f (l++e) (f x) i),(l++e)[i]'h.1=x:=by
 obtain ⟨i,hi,rfl⟩:=List.getElem_of_mem hx
 have h1:i<(l++e).length:=by rw [List.length_append];omega
 have h2:(l++e)[i]=l[i]:=List.getElem_append_left hi
 refine ⟨i,⟨h1,by rw [h2],fun y hy he=>?_⟩,h2⟩
 rw [List.take_append_of_le_length (Nat.le_of_lt hi)] at hy
 obtain ⟨k,hk,rfl⟩:=List.getElem_of_mem hy
 rw [List.length_take] at hk
 rw [List.getElem_take] at he
 exact List.pairwise_iff_getElem.1 nd k i (by rw [List.length_map];omega) (by rw [List.length_map];omega) Zo (by rw [List.getElem_map,List.getElem_map];exact he)
structure No.Turn (x y:No):Prop where
 s:y.s=x.s
 k:y.k=x.k
 gs:y.gs=x.gs
 m:y.m=x.m
 f:y.f=x.f
 e:x.f=true->y.fs=x.fs/\y.cs=x.cs
 fs: ∀z,z∈y.fs↔z∈x.fs
 cs: ∀z,z∈y.cs↔z∈x.cs
 nf:(y.fs.map Fi.s).Nodup
 nc:(y.cs.map Ca.s).Nodup
theorem No.cmp_turn {x y:No} (h:x.okn) (e:x.Turn y):x.cmp y=[]:=by
 obtain ⟨_,e1,e2,e3,e4,e7,e5,e6,n1,n2⟩:=e
 obtain ⟨⟨_,_,h3,h4⟩,_⟩:=h
 unfold No.cmp
 rw [ZDz ⟨e1.symm,by rw [e2],e3.symm,e4.symm⟩,if_pos rfl,e2,ZEf fun z hz=>Fi.put_id (h3.2 z ((e5 z).1 hz)),ZEf fun z hz=>Ca.put_id (h4.2 z ((e6 z).1 hz))]
 by_cases hf:x.f=true
 ·obtain ⟨h1,h2⟩:=e7 hf
  rw [if_pos hf,ZDz ⟨h1.symm,h2.symm⟩,if_pos rfl]
 ·rw [if_neg hf,No.mems,No.mf,No.mc,List.take_length,List.take_length,List.filter_eq_nil_iff.2,List.filter_eq_nil_iff.2]
  ·rfl
  ·intro z hz hb
   obtain ⟨i,hi,ez⟩:=At.more n2 ((e6 z).2 hz) []
   rw [ZD3] at hb
   simp only [List.append_nil] at hi ez
   rw [Ca.bad_at hi,ez] at hb
   exact hb rfl
  ·intro z hz hb
   obtain ⟨i,hi,ez⟩:=At.more n1 ((e5 z).2 hz) []
   rw [ZD3] at hb
   simp only [List.append_nil] at hi ez
   rw [Fi.bad_at hi,ez] at hb
   rcases hb with hb|⟨h1,h2⟩
   ·exact hb rfl
   ·rw [h1] at h2;cases h2
theorem ZHb {α:Type} {f:α->List Nat} {l:List α} (nd:(l.map f).Nodup) {x:α} (hx:x∈l):l.find? (fun y=>dq (f y=f x))=some x:=by
 obtain ⟨i,hi,e⟩:=At.more nd hx []
 simp only [List.append_nil] at hi e
 rw [ZD2 hi,e]
structure Mo.Same (m o:Mo):Prop where
 n: ∀x∈m.ns,∃y∈o.ns,x.Turn y
 nd:(o.ns.map No.s).Nodup
 p: ∀x,x∈o.ps↔x∈m.ps
 pd:(o.ps.map Pr.s).Nodup
 c: ∀x,x∈o.cs↔x∈m.cs
 cd:(o.cs.map Co.nm).Nodup
 f: ∀x,x∈o.fs↔x∈m.fs
theorem ZG8 {m o:Mo} (h:m.okn) (hs:m.Same o):ZD1 m o=[]:=by
 have a1:(ZDP No.s m.ns).flatMap (No.rs o)=[]:=List.flatMap_eq_nil_iff.2 fun x hx=>by
  obtain ⟨i,hi,e,_⟩:=ZDI hx
  have hm:x∈m.ns:=e ▸ List.getElem_mem hi
  obtain ⟨y,hy,ht⟩:=hs.n x hm
  have hf:=ZHb hs.nd hy
  rw [ht.s] at hf
  rw [No.rs,hf]
  exact No.cmp_turn (h.n.2 x hm) ht
 have a2:(ZDP Pr.s m.ps).flatMap (Pr.rs o)=[]:=List.flatMap_eq_nil_iff.2 fun x hx=>by
  obtain ⟨i,hi,e,_⟩:=ZDI hx
  have hm:x∈m.ps:=e ▸ List.getElem_mem hi
  rw [Pr.rs,ZHb hs.pd ((hs.p x).2 hm)]
  show (if dq _ then _ else _)=_
  rw [ZDz ⟨rfl,rfl⟩,if_pos rfl]
 have a3:(ZDP Co.nm m.cs).flatMap (Co.rsn o)=[]:=List.flatMap_eq_nil_iff.2 fun x hx=>by
  obtain ⟨i,hi,e,_⟩:=ZDI hx
  have hm:x∈m.cs:=e ▸ List.getElem_mem hi
  rw [Co.rsn,ZHb hs.cd ((hs.c x).2 hm)]
  show (if dq _ then _ else _)=_
  rw [ZDz (Co.sim_self (h.c.2 x hm)),if_pos rfl]
 have a4:ZEb m o m.free.length=[]:=by
  rw [ZEb,List.take_length,List.filter_eq_nil_iff.2,List.map_nil]
  intro f hf2 hl
  obtain ⟨i,hi,_,rfl⟩:=Mo.free_mem hf2
  exact ZD3.1 hl _ ((hs.f _).2 (List.getElem_mem hi)) (Fu.ent_self (h.f.get hi))
 have a5:ZEa m o o.free.length=[]:=by
  rw [ZEa,List.take_length,List.filter_eq_nil_iff.2,List.map_nil]
  intro f hf2 hl
  obtain ⟨i,hi,_,e⟩:=Mo.free_mem hf2
  rw [Bool.and_eq_true,ZD3] at hl
  have hm:f∈m.fs:=(hs.f f).1 (e ▸ List.getElem_mem hi)
  exact hl.1 _ hm (Fu.ent_self (h.f.2 _ hm))
 have a6:(ZDP Pr.s o.ps).flatMap (Pr.chosen m)=[]:=List.flatMap_eq_nil_iff.2 fun x hx=>by
  obtain ⟨i,hi,e,_⟩:=ZDI hx
  have hm:x∈m.ps:=(hs.p x).1 (e ▸ List.getElem_mem hi)
  rw [Pr.chosen,if_pos (List.any_eq_true.2 ⟨_,hm,ZDz rfl⟩)]
 have a7:(ZDP No.s m.ns).flatMap (No.chosen m o)=[]:=List.flatMap_eq_nil_iff.2 fun x hx=>by
  obtain ⟨i,hi,e,_⟩:=ZDI hx
  have hm:x∈m.ns:=e ▸ List.getElem_mem hi
  obtain ⟨y,hy,ht⟩:=hs.n x hm
  have hf:=ZHb hs.nd hy
  rw [ht.s] at hf
  rw [No.chosen,hf]
  show (if dq _ then _ else _)=_
  by_cases hk:x.k=2
  ·rw [ZDz hk,if_pos rfl]
  ·rw [ZDy hk,if_neg Zd,No.ch,List.take_length,List.filter_eq_nil_iff.2,List.map_nil]
   intro f hf2 hl
   rw [Bool.and_eq_true] at hl
   rw [No.has,ZDz hk,List.any_eq_true.2 ⟨f,(ht.fs f).1 hf2,ZDz rfl⟩] at hl
   exact absurd hl.1 Zd
 have a8:(ZDP Co.nm o.cs).flatMap (Co.news m)=[]:=List.flatMap_eq_nil_iff.2 fun x hx=>by
  obtain ⟨i,hi,e,_⟩:=ZDI hx
  have hm:x∈m.cs:=(hs.c x).1 (e ▸ List.getElem_mem hi)
  rw [Co.news,if_neg]
  rw [show (m.cs.any fun y=>dq (y.nm=x.nm))=true from List.any_eq_true.2 ⟨_,hm,ZDz rfl⟩]
  simp
 rw [ZD1,a1,a2,a3,a4,a5,a6,a7,a8]
 rfl
end Go.Am.Fe
end
section
namespace Go.Am.Fe
def turn {α:Type} (w:Nat) (l:List α):List α:=l.drop w++l.take w
section
variable {α β:Type} {w:Nat} {l:List α}
theorem ZG4 {x:α}:x∈turn w l↔x∈l:=by
 rw [turn,List.mem_append,or_comm,<-List.mem_append,List.take_append_drop]
theorem ZHj:(turn w l).length=l.length:=by simp [turn];omega
theorem ZG9:(turn w l).Nodup↔l.Nodup:=by
 have h:=(List.perm_append_comm (l₁:=l.drop w) (l₂:=l.take w)).nodup_iff
 rwa [List.take_append_drop] at h
theorem ZHg {f:α->β}:(turn w l).map f=turn w (l.map f):=by simp [turn,List.map_drop,List.map_take]
theorem ZHo {i:Nat} (hw:w<l.length) (hi:i<l.length):(turn w l)[i]? =l[(i+w) % l.length]? :=by
 unfold turn
 by_cases h:i+w<l.length
 ·rw [List.getElem?_append_left Ze,Nat.mod_eq_of_lt h,List.getElem?_drop,Nat.add_comm]
 ·have e:(i+w) % l.length=i+w-l.length:=by rw [Nat.mod_eq_sub_mod Zo,Nat.mod_eq_of_lt Zo]
  rw [List.getElem?_append_right Ze,e,List.getElem?_take_of_lt Ze]
  congr 1
  simp
  omega
end
def No.rot (x:No):No:=if x.f=true then x else ⟨x.s,x.k,x.gs,x.m,x.f,turn 1 x.fs,turn 1 x.cs,x.d⟩
theorem No.rot_s (x:No):x.rot.s=x.s:=by unfold No.rot;split<;>rfl
theorem Ok.turn {α:Type} {p:α->Prop} {l:List α} (h:Ok p l) {w:Nat}:Ok p (turn w l):=⟨by rw [ZHj];exact h.1,fun x hx=>h.2 x (ZG4.1 hx)⟩
theorem Ok.rev {α:Type} {p:α->Prop} {l:List α} (h:Ok p l):Ok p l.reverse:=⟨by rw [List.length_reverse];exact h.1,fun x hx=>h.2 x (List.mem_reverse.1 hx)⟩
theorem No.rot_okn {x:No} (h:x.okn):x.rot.okn:=by
 unfold No.rot
 split
 ·exact h
 ·obtain ⟨⟨h1,h2,h3,h4⟩,h5⟩:=h
  exact ⟨⟨h1,h2,h3.turn,h4.turn⟩,h5⟩
theorem No.rot_turn {x:No} (h:x.Good):x.Turn x.rot/\x.rot.Turn x:=by
 unfold No.rot
 split
 ·rename_i e
  exact ⟨⟨rfl,rfl,rfl,rfl,rfl,fun _=>⟨rfl,rfl⟩,fun _=>Iff.rfl,fun _=>Iff.rfl,h.f,h.c⟩,⟨rfl,rfl,rfl,rfl,rfl,fun _=>⟨rfl,rfl⟩,fun _=>Iff.rfl,fun _=>Iff.rfl,h.f,h.c⟩⟩
 ·rename_i e
  exact ⟨⟨rfl,rfl,rfl,rfl,rfl,fun h=>absurd h e,fun _=>ZG4,fun _=>ZG4,by rw [ZHg];exact ZG9.2 h.f,by rw [ZHg];exact ZG9.2 h.c⟩,
   ⟨rfl,rfl,rfl,rfl,rfl,fun h=>absurd h e,fun _=>ZG4.symm,fun _=>ZG4.symm,h.f,h.c⟩⟩
structure Mo.Dist (m:Mo):Prop where
 n:(m.ns.map No.s).Nodup
 p:(m.ps.map Pr.s).Nodup
 c:(m.cs.map Co.nm).Nodup
def Mo.rev (m:Mo) (w:Nat):Mo:=⟨(turn w m.ns).map No.rot,m.ps.reverse,m.cs.reverse,m.fs.reverse⟩
theorem Mo.rev_okn {m:Mo} {w:Nat} (h:m.okn):(m.rev w).okn:=⟨h.n.turn.map fun _ h=>No.rot_okn h,h.p.rev,h.c.rev,h.f.rev⟩
theorem ZHh {α:Type} {f:α->List Nat} {l:List α} (h:(l.map f).Nodup):(l.reverse.map f).Nodup:=by
 rw [List.map_reverse,List.Nodup,List.pairwise_reverse]
 exact h.imp fun h=>Ne.symm h
theorem Mo.rev_same {m:Mo} {w:Nat} (h:m.Good) (d:m.Dist):m.Same (m.rev w) where
 n x hx:=⟨x.rot,List.mem_map_of_mem (ZG4.2 hx),(No.rot_turn (h.n.2 x hx)).1⟩
 nd:=by
  show (((turn w m.ns).map No.rot).map No.s).Nodup
  rw [List.map_map,show No.s∘No.rot=No.s from funext No.rot_s,ZHg]
  exact ZG9.2 d.n
 p _:=List.mem_reverse
 pd:=ZHh d.p
 c _:=List.mem_reverse
 cd:=ZHh d.c
 f _:=List.mem_reverse
theorem Mo.same_rev {m:Mo} {w:Nat} (h:m.Good) (d:m.Dist):(m.rev w).Same m where
 n y hy:=by
  obtain ⟨x,hx,rfl⟩:=List.mem_map.1 hy
  have hx:=ZG4.1 hx
  exact ⟨x,hx,(No.rot_turn (h.n.2 x hx)).2⟩
 nd:=d.n
 p _:=List.mem_reverse.symm
 pd:=d.p
 c _:=List.mem_reverse.symm
 cd:=d.c
 f _:=List.mem_reverse.symm
theorem ZHv: ∀{x y p q:List Nat},58∉x->58∉y->x++[58]++p=y++[58]++q->x=y/\p=q
 | [],[],_,_,_,_,e=>by simpa using e
 | [],c::y,_,_,_,h,e=>by simp at e h;exact absurd e.1 h.1
 | c::x,[],_,_,h,_,e=>by simp at e h;exact absurd e.1.symm h.1
 | c::x,d::y,p,q,h1,h2,e=>by
   simp only [List.cons_append,List.cons.injEq] at e
   obtain ⟨r1,r2⟩:=ZHv (x:=x) (y:=y) (p:=p) (q:=q) (fun h=>h1 (List.mem_cons_of_mem _ h)) (fun h=>h2 (List.mem_cons_of_mem _ h)) e.2
   exact ⟨by rw [e.1,r1],r2⟩
theorem ZHk {l:List Co} (h:(l.map fun x=>(x.p,x.t.s)).Nodup) (h2: ∀x∈l,58∉x.t.s):(l.map Co.nm).Nodup:=by
 unfold List.Nodup at*
 rw [List.pairwise_map] at*
 refine h.imp_of_mem fun ha hb hn he=>hn ?_
 obtain ⟨e1,e2⟩:=ZHv (h2 _ ha) (h2 _ hb) he
 rw [e1,e2]
end Go.Am.Fe
end
