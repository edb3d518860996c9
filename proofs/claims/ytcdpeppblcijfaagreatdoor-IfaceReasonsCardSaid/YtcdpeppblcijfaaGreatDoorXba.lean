/- Part. -/
import Derived.Test.YtcdpeppblcijfaaGreatDoorXaz
set_option maxRecDepth 999999
set_option maxHeartbeats 0
set_option linter.all false
section
namespace Go.Am.Fe
variable {S:SF} {Q:QF}
attribute [local simp] ZbO if_pos if_neg decide_eq_true decide_eq_false Yi Yj ZgF Ops.callv List.idxOf?_cons
def ZJp (H:Has S) (R:HR S) {x y:No} (hx:x.okn) (hy:y.okn) {b:List Rz} (hb:(b++x.mems (y.fs.map (Fi.put y.gs x.gs)) (y.cs.map (Ca.put y.gs x.gs))).length<68719476736)
  (hQ:Q [] [[.tip 2 (rzs (b++x.mems (y.fs.map (Fi.put y.gs x.gs)) (y.cs.map (Ca.put y.gs x.gs))))]]):
  Gives S ZHa [.one (.ref ⟨false,0,0⟩),.agg (x.row.map .p),.agg (y.row.map .p)] [[.tip 2 (rzs b)]] Q:=by
 obtain ⟨⟨x1,_,x3,x4⟩,x5⟩:=hx
 obtain ⟨⟨_,_,y3,y4⟩,y5⟩:=hy
 have a0:=x1.1
 have a1:=x3.1
 have a2:=x4.1
 have a3:=y3.1
 have a4:=y4.1
 have a5:=y5.1
 have b1:(x.fs.map Fi.row).length=x.fs.length:=Yh _
 have b2:(y.fs.map Fi.row).length=y.fs.length:=Yh _
 have b3:(x.cs.map Ca.row).length=x.cs.length:=Yh _
 have b4:(y.cs.map Ca.row).length=y.cs.length:=Yh _
 obtain ⟨F,hF⟩: ∃F,F=y.fs.map (Fi.put y.gs x.gs):=⟨_,rfl⟩
 obtain ⟨G,hG⟩: ∃G,G=y.cs.map (Ca.put y.gs x.gs):=⟨_,rfl⟩
 have eF:F.map Fi.s=y.fs.map Fi.s:=by rw [hF,YK];rfl
 have eG:G.map Ca.s=y.cs.map Ca.s:=by rw [hG,YK];rfl
 rw [<-hF,<-hG] at hb hQ
 rw [No.mems,<-Yu] at hb hQ
 refine .code R.zuReasonsMembersq rfl ?_
 simp(disch:=omega)[ZHi]
 refine Lp.rule (fun (j:Nat)=>[(0,.a (.one (.ref ⟨false,0,0⟩))),(4,.a (.one (.ref ⟨true,10004,0⟩))),(5,.a (.one (.ref ⟨true,10005,0⟩))),(6,.a (pi j)),(9999,.objs [[.tip 2 (rzs (b++x.mf F j))]]),(10004,.a (.agg (x.row.map .p))),(10005,.a (.agg (y.row.map .p)))]) (fun j=>j<=x.fs.length) (fun j=>x.fs.length-j) (a₀:=0) (by simp [No.mf]) (Yd _) ?_
 intro j k1
 by_cases hj:j<x.fs.length
 ·have hle:=No.mf_le (x:=x) (fs:=F) (i:=j+1) hj
  have r1:=ZG2 (f:=Fi.row) (l:=x.fs) (j:=j) Zo
  have fl:=(x3.get hj).1.1
  have yes:(x.fs[j]).bad F->(b++x.mf F j++[(4,x.s++[46]++x.fs[j].s)]).length<68719476736/\b++x.mf F (j+1)=b++x.mf F j++[(4,x.s++[46]++x.fs[j].s)]:=fun h=>by
   have e:=No.mf_yes hj h
   rw [dot2] at e
   have e2:b++x.mf F (j+1)=b++x.mf F j++[(4,x.s++[46]++x.fs[j].s)]:=by rw [e];simp only [Yu]
   refine ⟨?_,e2⟩
   rw [<-e2]
   simp only [YE] at hb⊢
   omega
  simp(disch:=omega)[r1]
  refine ZIW R a3 (fun h=>?_) (fun i h=>?_)
  ·obtain ⟨e1,e2⟩:=yes (Fi.bad_none fun g hg=>by
    rw [hF] at hg
    obtain ⟨g',hg',rfl⟩:=List.mem_map.1 hg
    exact h g' hg')
   simp(disch:=omega)[r1]
   refine ZIf R (by simpa using e1) ?_
   simp(disch:=omega)
   exact RdN.mk (j+1) (by rw [e2];simp) hj Zo
  ·have hi:=h.1
   have r2:=ZG2 (f:=Fi.row) (l:=y.fs) (j:=i) Zo
   have hat:=At.same eF h
   have hbad:=Fi.bad_at hat
   have eFi:F[i]'hat.1=y.fs[i].put y.gs x.gs:=by subst hF;exact List.getElem_map ..
   rw [eFi] at hbad
   simp(disch:=omega)[r1,r2]
   refine ZJj H R a5 x5 (y3.get hi).2 ?_
   simp(disch:=omega)
   refine ZI6 H (x3.get hj).2 (Ty.put_fw (y3.get hi).2) ?_
   by_cases c1:x.fs[j].t=y.fs[i].t.put y.gs x.gs
   ·rw [ZDz c1]
    cases v1:x.fs[j].v
    ·simp(disch:=omega)[r1,r2,v1]
     have e:=No.mf_no hj (fs:=F) (fun hc=>by
      rcases hbad.1 hc with hc|hc
      ·exact hc c1
      ·rw [v1] at hc;exact absurd hc.1 Zd)
     exact RdN.mk (j+1) (by rw [e];simp) hj Zo
    ·cases v2:y.fs[i].v
     ·obtain ⟨e1,e2⟩:=yes (hbad.2 (.inr ⟨v1,v2⟩))
      simp(disch:=omega)[r1,r2,v1,v2]
      refine ZIf R (by simpa using e1) ?_
      simp(disch:=omega)
      exact RdN.mk (j+1) (by rw [e2];simp) hj Zo
     ·simp(disch:=omega)[r1,r2,v1,v2]
      have e:=No.mf_no hj (fs:=F) (fun hc=>by
       rcases hbad.1 hc with hc|hc
       ·exact hc c1
       ·have:=hc.2;rw [show (y.fs[i].put y.gs x.gs).v=y.fs[i].v from rfl,v2] at this;exact absurd this Zd)
      exact RdN.mk (j+1) (by rw [e];simp) hj Zo
   ·rw [ZDy c1]
    obtain ⟨e1,e2⟩:=yes (hbad.2 (.inl c1))
    simp(disch:=omega)[r1,r2]
    refine ZIf R (by simpa using e1) ?_
    simp(disch:=omega)
    exact RdN.mk (j+1) (by rw [e2];simp) hj Zo
 rw [show j=x.fs.length by omega]
 generalize b++x.mf F x.fs.length=b' at hb hQ⊢
 simp(disch:=omega)
 refine Lp.rule (fun (j:Nat)=>[(0,.a (.one (.ref ⟨false,0,0⟩))),(4,.a (.one (.ref ⟨true,10004,0⟩))),(5,.a (.one (.ref ⟨true,10005,0⟩))),(9,.a (pi j)),(9999,.objs [[.tip 2 (rzs (b'++x.mc G j))]]),(10004,.a (.agg (x.row.map .p))),(10005,.a (.agg (y.row.map .p)))]) (fun j=>j<=x.cs.length) (fun j=>x.cs.length-j) (a₀:=0) (by simp [No.mc]) (Yd _) ?_
 clear hj k1 j
 intro j k1
 by_cases hj:j<x.cs.length
 ·have hle:=No.mc_le (x:=x) (fs:=G) (i:=j+1) hj
  have r1:=ZG2 (f:=Ca.row) (l:=x.cs) (j:=j) Zo
  have fl:=(x4.get hj).1.1
  have yes:(x.cs[j]).bad G->(b'++x.mc G j++[(4,x.s++[46]++x.cs[j].s)]).length<68719476736/\b'++x.mc G (j+1)=b'++x.mc G j++[(4,x.s++[46]++x.cs[j].s)]:=fun h=>by
   have e:=No.mc_yes hj h
   rw [dot2] at e
   have e2:b'++x.mc G (j+1)=b'++x.mc G j++[(4,x.s++[46]++x.cs[j].s)]:=by rw [e];simp only [Yu]
   refine ⟨?_,e2⟩
   rw [<-e2]
   simp only [YE] at hb⊢
   omega
  simp(disch:=omega)[r1]
  refine Lp.rule (fun (k:Nat)=>[(0,.a (.one (.ref ⟨false,0,0⟩))),(4,.a (.one (.ref ⟨true,10004,0⟩))),(5,.a (.one (.ref ⟨true,10005,0⟩))),(9,.a (pi j)),(10,.a (.one (.ref ⟨true,10010,0⟩))),(11,.a (pi k)),(9999,.objs [[.tip 2 (rzs (b'++x.mc G j))]]),(10004,.a (.agg (x.row.map .p))),(10005,.a (.agg (y.row.map .p))),(10010,.a (.agg (x.cs[j].row.map .p)))]) (fun k=>k<=y.cs.length/\ ∀c∈y.cs.take k,c.s≠x.cs[j].s) (fun k=>y.cs.length-k) (a₀:=0) Zs ⟨Yd _,by simp⟩ ?_
  rintro i ⟨i1,i2⟩
  by_cases hi:i<y.cs.length
  ·have r2:=ZG2 (f:=Ca.row) (l:=y.cs) (j:=i) Zo
   by_cases hs:y.cs[i].s=x.cs[j].s
   ·have hat:=At.same eG (show At Ca.s y.cs x.cs[j].s i from ⟨hi,hs,i2⟩)
    have hbad:=Ca.bad_at hat
    have eGi:G[i]'hat.1=y.cs[i].put y.gs x.gs:=by subst hG;exact List.getElem_map ..
    rw [eGi] at hbad
    have hne: ¬i=y.cs.length:=by omega
    simp(disch:=omega)[r1,r2,hs,hne]
    refine ZJa H R a5 x5 (x4.get hj).2 (y4.get hi).2 ?_
    by_cases c1:x.cs[j].ts=y.cs[i].ts.map (Ty.put y.gs x.gs)
    ·rw [ZDz c1]
     simp(disch:=omega)
     have e:=No.mc_no hj (fs:=G) (fun hc=>hbad.1 hc c1)
     exact RdN.mk (j+1) (by rw [e];simp) hj Zo
    ·rw [ZDy c1]
     obtain ⟨e1,e2⟩:=yes (hbad.2 c1)
     simp(disch:=omega)
     refine ZIf R (by simpa using e1) ?_
     simp(disch:=omega)
     exact RdN.mk (j+1) (by rw [e2];simp) hj Zo
   ·simp(disch:=omega)[r1,r2,hs]
    exact RdN.mk (i+1) Zs ⟨hi,ZEj hi i2 hs⟩ Zo
  ·obtain ⟨e1,e2⟩:=yes (Ca.bad_none fun g hg=>by
    rw [hG] at hg
    obtain ⟨g',hg',rfl⟩:=List.mem_map.1 hg
    rw [Yg Zo] at i2
    exact i2 g' hg')
   have he:i=y.cs.length:=by omega
   simp(disch:=omega)[he]
   refine ZIf R (by simpa using e1) ?_
   simp(disch:=omega)
   exact RdN.mk (j+1) (by rw [e2];simp) hj Zo
 ·rw [show j=x.cs.length by omega]
  simp(disch:=omega)
  exact hQ
end Go.Am.Fe
end
section
namespace Go.Am.Fe
variable {S:SF} {Q:QF}
attribute [local simp] ZbO if_pos if_neg decide_eq_true decide_eq_false Yi Yj ZgF Ops.callv List.idxOf?_cons
def ZHT (H:Has S) {m:Mo} {s:LN} (hn:m.ns.length<=100000) (hQ0:(∀x∈m.ns,x.s≠s)->Q [pi (-1)] []) (hQ1: ∀j:Nat,At No.s m.ns s j->Q [pi j] []):Gives S Zc0 [.agg m.cs',ps s] [] Q:=by
 have b1:(m.ns.map No.row).length=m.ns.length:=Yh _
 refine .code H.ZqL rfl ?_
 simp(disch:=omega)[Zhl]
 refine Lp.rule (fun (j:Nat)=>[(1,.a (ps s)),(2,.a (.one (.ref ⟨true,10002,0⟩))),(5,.a (pi j)),o9,(10002,.a (.agg m.cs'))]) (fun j=>j<=m.ns.length/\ ∀f∈m.ns.take j,f.s≠s) (fun j=>m.ns.length-j) (a₀:=0) Zs ⟨Yd _,by simp⟩ ?_
 rintro j ⟨k1,k2⟩
 by_cases hj:j<m.ns.length
 ·have r1:=ZG2 (f:=No.row) (l:=m.ns) (j:=j) Zo
  by_cases hs:m.ns[j].s=s
  ·simp(disch:=omega)[r1,hs]
   exact hQ1 j ⟨hj,hs,k2⟩
  ·simp(disch:=omega)[r1,hs]
   exact RdN.mk (j+1) Zs ⟨hj,ZEj hj k2 hs⟩ Zo
 ·simp(disch:=omega)
  exact hQ0 (by rwa [Yg Zo] at k2)
def ZHE (R:HR S) {m:Mo} {s:LN} (hn:m.ps.length<=100000) (hQ0:(∀x∈m.ps,x.s≠s)->Q [pi (-1)] []) (hQ1: ∀j:Nat,At Pr.s m.ps s j->Q [pi j] []):Gives S ZHl [.agg m.cs',ps s] [] Q:=by
 have b1:(m.ps.map Pr.row).length=m.ps.length:=Yh _
 refine .code R.zfProtocol rfl ?_
 simp(disch:=omega)[ZHM]
 refine Lp.rule (fun (j:Nat)=>[(1,.a (ps s)),(2,.a (.one (.ref ⟨true,10002,0⟩))),(5,.a (pi j)),o9,(10002,.a (.agg m.cs'))]) (fun j=>j<=m.ps.length/\ ∀f∈m.ps.take j,f.s≠s) (fun j=>m.ps.length-j) (a₀:=0) Zs ⟨Yd _,by simp⟩ ?_
 rintro j ⟨k1,k2⟩
 by_cases hj:j<m.ps.length
 ·have r1:=ZG2 (f:=Pr.row) (l:=m.ps) (j:=j) Zo
  by_cases hs:m.ps[j].s=s
  ·simp(disch:=omega)[r1,hs]
   exact hQ1 j ⟨hj,hs,k2⟩
  ·simp(disch:=omega)[r1,hs]
   exact RdN.mk (j+1) Zs ⟨hj,ZEj hj k2 hs⟩ Zo
 ·simp(disch:=omega)
  exact hQ0 (by rwa [Yg Zo] at k2)
def ZKd (R:HR S) {m:Mo} {s:LN} (hn:m.fs.length<=100000) (hQ0:(∀x∈m.fs,x.s≠s)->Q [pi (-1)] []) (hQ1: ∀j:Nat,At Fu.s m.fs s j->Q [pi j] []):Gives S ZIm [.agg m.cs',ps s] [] Q:=by
 have b1:(m.fs.map Fu.row).length=m.fs.length:=Yh _
 refine .code R.zfFunc rfl ?_
 simp(disch:=omega)[ZIy]
 refine Lp.rule (fun (j:Nat)=>[(1,.a (ps s)),(2,.a (.one (.ref ⟨true,10002,0⟩))),(5,.a (pi j)),o9,(10002,.a (.agg m.cs'))]) (fun j=>j<=m.fs.length/\ ∀f∈m.fs.take j,f.s≠s) (fun j=>m.fs.length-j) (a₀:=0) Zs ⟨Yd _,by simp⟩ ?_
 rintro j ⟨k1,k2⟩
 by_cases hj:j<m.fs.length
 ·have r1:=ZG2 (f:=Fu.row) (l:=m.fs) (j:=j) Zo
  by_cases hs:m.fs[j].s=s
  ·simp(disch:=omega)[r1,hs]
   exact hQ1 j ⟨hj,hs,k2⟩
  ·simp(disch:=omega)[r1,hs]
   exact RdN.mk (j+1) Zs ⟨hj,ZEj hj k2 hs⟩ Zo
 ·simp(disch:=omega)
  exact hQ0 (by rwa [Yg Zo] at k2)
def ZHN {α:Type} {f:α->LN} {l:List α} {i j:Nat} (hi:i<l.length) (h:At f l (f l[i]) j):(j=i↔ZGt f l i)/\j<=i:=by
 obtain ⟨hj,h1,h2⟩:=h
 have hle:j<=i:=by
  rcases Yt i j with hlt|hge
  ·exact absurd rfl (h2 l[i] (List.mem_take_iff_getElem.2 ⟨i,by omega,rfl⟩))
  ·exact hge
 refine ⟨⟨fun e=>?_,fun hf=>?_⟩,hle⟩
 ·subst e
  exact ⟨hi,h2⟩
 ·obtain ⟨_,h3⟩:=hf
  rcases Yt j i with hlt|hge
  ·exact absurd h1 (h3 l[j] (List.mem_take_iff_getElem.2 ⟨j,by omega,rfl⟩))
  ·omega
noncomputable def upTo {α:Type} (f:α->LN) (g:α->List Rz) (l:List α) (b:List Rz) (i:Nat):List Rz:=b++(ZDO f l i).flatMap g
section
variable {α:Type} {f:α->LN} {g:α->List Rz} {l:List α} {b:List Rz} {i:Nat}
def ZHI:upTo f g l b 0=b:=by simp [upTo,ZDO]
def ZHz (hi:i<l.length) (h:ZGt f l i):upTo f g l b (i+1)=upTo f g l b i++g l[i]:=by
 rw [upTo,ZEV hi h,List.flatMap_append,upTo,Yu]
 simp
def ZIh (h: ¬ZGt f l i):upTo f g l b (i+1)=upTo f g l b i:=by rw [upTo,ZFd h,upTo]
def ZHY:upTo f g l b l.length=b++(ZDP f l).flatMap g:=rfl
def ZHZ (hi:i<=l.length):(upTo f g l b i).length<=(b++(ZDP f l).flatMap g).length:=by
 obtain ⟨t,ht⟩:=ZEB (f:=f) (l:=l) hi
 rw [ht,List.flatMap_append,upTo]
 simp only [YE]
 omega
end
def ZI1 (H:Has S) (R:HR S) {m1 m2:Mo} (h1:Ok No.okn m1.ns) (h2:Ok No.okn m2.ns) {b:List Rz} (hb:(b++(ZDP No.s m1.ns).flatMap (No.rs m2)).length<68719476736)
  (hQ:Q [] [[.tip 2 (rzs (b++(ZDP No.s m1.ns).flatMap (No.rs m2)))]]):Gives S ZG6 [.one (.ref ⟨false,0,0⟩),.agg m1.cs',.agg m2.cs'] [[.tip 2 (rzs b)]] Q:=by
 have n1:=h1.1
 have n2:=h2.1
 have b1:(m1.ns.map No.row).length=m1.ns.length:=Yh _
 have b2:(m2.ns.map No.row).length=m2.ns.length:=Yh _
 refine .code R.zuReasonsNominalsq rfl ?_
 simp(disch:=omega)[ZHg]
 refine Lp.rule (fun (i:Nat)=>[(0,.a (.one (.ref ⟨false,0,0⟩))),(4,.a (.one (.ref ⟨true,10004,0⟩))),(5,.a (.one (.ref ⟨true,10005,0⟩))),(6,.a (pi i)),(9999,.objs [[.tip 2 (rzs (upTo No.s (No.rs m2) m1.ns b i))]]),(10004,.a (.agg m1.cs')),(10005,.a (.agg m2.cs'))]) (fun i=>i<=m1.ns.length) (fun i=>m1.ns.length-i) (a₀:=0) (by simp [ZHI]) (Yd _) ?_
 intro i k1
 by_cases hi:i<m1.ns.length
 ·have r1:=ZG2 (f:=No.row) (l:=m1.ns) (j:=i) Zo
  have hlen:=ZHZ (f:=No.s) (g:=No.rs m2) (b:=b) (i:=i+1) (l:=m1.ns) hi
  have hx:=h1.get hi
  have hxs:=hx.1.1.1
  simp(disch:=omega)[r1]
  refine ZHT H n1 (fun h=>absurd rfl (h _ (Yl hi))) fun j hj=>?_
  obtain ⟨e1,e2⟩:=ZHN hi hj
  by_cases hji:j=i
  rotate_left
  ·have hji': ¬(j:Int)=i:=by omega
   simp(disch:=omega)[hji,hji']
   exact RdN.mk (i+1) (by rw [ZIh fun h=>hji (e1.2 h)];simp) hi Zo
  have ey:=ZHz (g:=No.rs m2) (b:=b) hi (e1.1 hji)
  subst hji
  simp(disch:=omega)[r1]
  generalize upTo No.s (No.rs m2) m1.ns b j=b' at*
  rw [ey] at hlen
  have hnx:=ZG2 (f:=No.row) (l:=m1.ns) (j:=j) Zo
  refine ZHT H n2 (fun h=>?_) (fun k hk=>?_)
  ·rw [show m1.ns[j].rs m2=[(1,ZDJ [m1.ns[j].s])] from by rw [No.rs,ZEC h],dot1] at ey hlen
   simp(disch:=omega)[r1]
   refine ZIf R Zo ?_
   simp(disch:=omega)
   exact RdN.mk (j+1) (by rw [ey];simp) hi Zo
  ·have hk1:=hk.1
   have hy:=h2.get hk1
   have r2:=ZG2 (f:=No.row) (l:=m2.ns) (j:=k) Zo
   rw [show m1.ns[j].rs m2=m1.ns[j].cmp m2.ns[k] from by rw [No.rs,ZD2 hk]] at ey hlen
   have fail: ¬(m1.ns[j].k=m2.ns[k].k/\m1.ns[j].gs.length=m2.ns[k].gs.length/\m1.ns[j].m=m2.ns[k].m/\m1.ns[j].f=m2.ns[k].f)->m1.ns[j].cmp m2.ns[k]=[(2,m1.ns[j].s)]:=fun h=>by rw [No.cmp,ZDy h,dot1];rfl
   have gx:(strs m1.ns[j].gs).length=m1.ns[j].gs.length:=by simp [strs]
   have gy:(strs m2.ns[k].gs).length=m2.ns[k].gs.length:=by simp [strs]
   have gx1:=hx.2.1
   have gy1:=hy.2.1
   by_cases c1:m1.ns[j].k=m2.ns[k].k
   rotate_left
   ·rw [fail fun h=>c1 h.1] at ey hlen
    simp(disch:=omega)[r1,r2,c1]
    refine ZIf R Zo ?_
    simp(disch:=omega)
    exact RdN.mk (j+1) (by rw [ey];simp) hi Zo
   by_cases c2:m1.ns[j].gs.length=m2.ns[k].gs.length
   rotate_left
   ·rw [fail fun h=>c2 h.2.1] at ey hlen
    have c2': ¬(m1.ns[j].gs.length:Int)=m2.ns[k].gs.length:=by omega
    simp(disch:=omega)[r1,r2,c1,c2,c2',gx,gy]
    refine ZIf R Zo ?_
    simp(disch:=omega)
    exact RdN.mk (j+1) (by rw [ey];simp) hi Zo
   by_cases c3:m1.ns[j].m=m2.ns[k].m
   rotate_left
   ·rw [fail fun h=>c3 h.2.2.1] at ey hlen
    have c3':=bne_iff_ne.2 c3
    simp(disch:=omega)[r1,r2,c1,c2,c3',gx,gy]
    refine ZIf R Zo ?_
    simp(disch:=omega)
    exact RdN.mk (j+1) (by rw [ey];simp) hi Zo
   by_cases c4:m1.ns[j].f=m2.ns[k].f
   rotate_left
   ·rw [fail fun h=>c4 h.2.2.2] at ey hlen
    have c4':=bne_iff_ne.2 c4
    simp(disch:=omega)[r1,r2,c1,c2,c3,c4',gx,gy]
    refine ZIf R Zo ?_
    simp(disch:=omega)
    exact RdN.mk (j+1) (by rw [ey];simp) hi Zo
   have hcmp:m1.ns[j].cmp m2.ns[k]=if m1.ns[j].f then if dq (m1.ns[j].fs=m2.ns[k].fs.map (Fi.put m2.ns[k].gs m1.ns[j].gs)/\m1.ns[j].cs=m2.ns[k].cs.map (Ca.put m2.ns[k].gs m1.ns[j].gs)) then [] else [(3,ZDJ [m1.ns[j].s])]
     else m1.ns[j].mems (m2.ns[k].fs.map (Fi.put m2.ns[k].gs m1.ns[j].gs)) (m2.ns[k].cs.map (Ca.put m2.ns[k].gs m1.ns[j].gs)):=by rw [No.cmp,ZDz ⟨c1,c2,c3,c4⟩];rfl
   rw [hcmp] at ey hlen
   have hl:=ZI9 (Q:=Q) H R hx hy
   have hme:=fun Q b=>ZJp (Q:=Q) (b:=b) H R hx hy
   cases hf:m1.ns[j].f
   ·rw [hf,if_neg Zd] at ey hlen
    rw [hf] at c4
    simp(disch:=omega)[r1,r2,c1,c2,c3,<-c4,hf,gx,gy]
    rw [No.row,No.row] at hme
    simp only [Yp,List.map_nil,hf,<-c4,c1,c3] at hme
    refine hme _ _ Zo ?_
    simp(disch:=omega)
    exact RdN.mk (j+1) (by rw [ey];simp) hi Zo
   ·rw [hf,if_pos rfl,dot1] at ey hlen
    have hl2:=fun Q=>ZI9 (Q:=Q) H R hx hy
    rw [No.row,No.row] at hl2
    rw [hf] at c4
    simp only [Yp,List.map_nil,hf,<-c4,c1,c3] at hl2
    simp(disch:=omega)[r1,r2,c1,c2,c3,<-c4,hf,gx,gy]
    refine hl2 _ ?_
    by_cases c5:m1.ns[j].fs=m2.ns[k].fs.map (Fi.put m2.ns[k].gs m1.ns[j].gs)/\m1.ns[j].cs=m2.ns[k].cs.map (Ca.put m2.ns[k].gs m1.ns[j].gs)
    ·rw [ZDz c5,if_pos rfl,List.append_nil] at ey
     rw [ZDz c5]
     simp(disch:=omega)
     exact RdN.mk (j+1) (by rw [ey];simp) hi Zo
    ·rw [ZDy c5,if_neg Zd] at ey hlen
     rw [ZDy c5]
     simp(disch:=omega)
     refine ZIf R Zo ?_
     simp(disch:=omega)
     exact RdN.mk (j+1) (by rw [ey];simp) hi Zo
 ·rw [show i=m1.ns.length by omega,ZHY]
  simp(disch:=omega)
  exact hQ
end Go.Am.Fe
end
section
namespace Go.Am.Fe
variable {S:SF} {Q:QF}
attribute [local simp] ZbO if_pos if_neg decide_eq_true decide_eq_false Yi Yj ZgF Ops.callv List.idxOf?_cons
def As.ext' {f g:As} (h1:f.s=g.s) (h2:f.bs=g.bs):f=g:=by cases f;cases g;simp_all
def ZJ2 (H:Has S) (R:HR S) {p q:Pr} (hp:p.ok) (hq:q.ok) (hQ:Q [pb (dq (p.as=q.as/\p.ms.map Me.bare=q.ms.map Me.bare))] []):Gives S ZHP [.agg (p.row.map .p),.agg (q.row.map .p)] [] Q:=by
 obtain ⟨_,x3,x4⟩:=hp
 obtain ⟨_,y3,y4⟩:=hq
 have a1:=x3.1
 have a2:=x4.1
 have a3:=y3.1
 have a4:=y4.1
 have b1:(p.as.map As.row).length=p.as.length:=Yh _
 have b2:(q.as.map As.row).length=q.as.length:=Yh _
 have b3:(p.ms.map Me.row).length=p.ms.length:=Yh _
 have b4:(q.ms.map Me.row).length=q.ms.length:=Yh _
 refine .code R.zuShapeq rfl ?_
 simp(disch:=omega)[ZH7]
 by_cases h1:p.as.length=q.as.length
 rotate_left
 ·rw [ZDy fun h=>h1 (by rw [h.1])] at hQ
  simp(disch:=omega)[h1]
  exact hQ
 by_cases h2:p.ms.length=q.ms.length
 rotate_left
 ·rw [ZDy fun h=>h2 (by have:=congrArg List.length h.2;simpa using this)] at hQ
  simp(disch:=omega)[h1,h2]
  exact hQ
 simp(disch:=omega)[h1,h2]
 refine Lp.rule (fun (j:Nat)=>[(2,.a (.one (.ref ⟨true,10002,0⟩))),(3,.a (.one (.ref ⟨true,10003,0⟩))),(5,.a (pi j)),o9,(10002,.a (.agg (p.row.map .p))),(10003,.a (.agg (q.row.map .p)))]) (fun j=>j<=p.as.length/\p.as.take j=q.as.take j) (fun j=>p.as.length-j) (a₀:=0) Zs ⟨Yd _,by simp⟩ ?_
 rintro j ⟨k1,k2⟩
 by_cases hj:j<p.as.length
 ·have hjm:j<q.as.length:=by omega
  have r1:=ZG2 (f:=As.row) (l:=p.as) (j:=j) Zo
  have r2:=ZG2 (f:=As.row) (l:=q.as) (j:=j) Zo
  have bad: ¬(p.as[j]=q.as[j])->Q [pb false] []:=fun h=>by
   rw [ZDy fun h'=>ZH9 hj hjm h h'.1] at hQ
   exact hQ
  by_cases c1:p.as[j].s=q.as[j].s
  rotate_left
  ·simp(disch:=omega)[r1,r2,c1]
   exact bad fun h=>c1 (by rw [h])
  simp(disch:=omega)[r1,r2,c1]
  refine ZI8 R (x3.get hj).2 (y3.get hjm).2 ?_
  by_cases c3:p.as[j].bs=q.as[j].bs
  ·rw [ZDz c3]
   simp(disch:=omega)
   exact RdN.mk (j+1) Zs ⟨hj,ZHh k2 hj hjm (As.ext' c1 c3)⟩ Zo
  ·rw [ZDy c3]
   simp(disch:=omega)
   exact bad fun h=>c3 (by rw [h])
 have ef:=ZHu k2 Zo Zo
 simp(disch:=omega)
 refine Lp.rule (fun (j:Nat)=>[(2,.a (.one (.ref ⟨true,10002,0⟩))),(3,.a (.one (.ref ⟨true,10003,0⟩))),(6,.a (pi j)),o9,(10002,.a (.agg (p.row.map .p))),(10003,.a (.agg (q.row.map .p)))]) (fun j=>j<=p.ms.length/\(p.ms.map Me.bare).take j=(q.ms.map Me.bare).take j) (fun j=>p.ms.length-j) (a₀:=0) Zs ⟨Yd _,by simp⟩ ?_
 clear k1 k2 hj
 rintro j ⟨k1,k2⟩
 by_cases hj:j<p.ms.length
 ·have hjm:j<q.ms.length:=by omega
  have hjp:j<(p.ms.map Me.bare).length:=by rw [Yh];exact hj
  have hjq:j<(q.ms.map Me.bare).length:=by rw [Yh];exact hjm
  have r1:=ZG2 (f:=Me.row) (l:=p.ms) (j:=j) Zo
  have r2:=ZG2 (f:=Me.row) (l:=q.ms) (j:=j) Zo
  obtain ⟨_,u2,u3,u4⟩:=x4.get hj
  obtain ⟨_,v2,v3,v4⟩:=y4.get hjm
  have bad: ¬(p.ms[j].bare=q.ms[j].bare)->Q [pb false] []:=fun h=>by
   rw [ZDy fun h'=>ZH9 hjp hjq (by rw [List.getElem_map,List.getElem_map];exact h) h'.2] at hQ
   exact hQ
  generalize hX:p.ms[j]=x at*
  generalize hY:q.ms[j]=y at*
  have d1:=u2.1
  have d2:=v2.1
  have d3:(x.ps.map Pa.row).length=x.ps.length:=Yh _
  have d4:(y.ps.map Pa.row).length=y.ps.length:=Yh _
  by_cases c1:x.s=y.s
  rotate_left
  ·simp(disch:=omega)[r1,r2,c1]
   exact bad fun h=>c1 (congrArg (·.1) h)
  by_cases c2:x.ps.length=y.ps.length
  rotate_left
  ·have c2': ¬(x.ps.length:Int)=y.ps.length:=by omega
   simp(disch:=omega)[r1,r2,c1,c2,c2']
   exact bad fun h=>c2 (by have:=congrArg (fun z=>z.2.1.length) h;simpa [Me.bare] using this)
  simp(disch:=omega)[r1,r2,c1,c2]
  refine ZI6 H u3 v3 ?_
  by_cases c3:x.r=y.r
  rotate_left
  ·rw [ZDy c3]
   simp(disch:=omega)
   exact bad fun h=>c3 (congrArg (·.2.2.1) h)
  rw [ZDz c3]
  simp(disch:=omega)
  refine ZI6 H u4 v4 ?_
  by_cases c4:x.e=y.e
  rotate_left
  ·rw [ZDy c4]
   simp(disch:=omega)
   exact bad fun h=>c4 (congrArg (·.2.2.2) h)
  rw [ZDz c4]
  simp(disch:=omega)
  refine Lp.rule (fun (k:Nat)=>[(2,.a (.one (.ref ⟨true,10002,0⟩))),(3,.a (.one (.ref ⟨true,10003,0⟩))),(6,.a (pi j)),(7,.a (.one (.ref ⟨true,10007,0⟩))),(8,.a (.one (.ref ⟨true,10008,0⟩))),(9,.a (pi k)),o9,(10002,.a (.agg (p.row.map .p))),(10003,.a (.agg (q.row.map .p))),(10007,.a (.agg (x.row.map .p))),(10008,.a (.agg (y.row.map .p)))]) (fun k=>k<=x.ps.length/\(x.ps.map Pa.bare).take k=(y.ps.map Pa.bare).take k) (fun k=>x.ps.length-k) (a₀:=0) (by simp [c1]) ⟨Yd _,by simp⟩ ?_
  rintro k ⟨l1,l2⟩
  by_cases hk:k<x.ps.length
  ·have hkm:k<y.ps.length:=by omega
   have hkp:k<(x.ps.map Pa.bare).length:=by rw [Yh];exact hk
   have hkq:k<(y.ps.map Pa.bare).length:=by rw [Yh];exact hkm
   have r3:=ZG2 (f:=Pa.row) (l:=x.ps) (j:=k) Zo
   have r4:=ZG2 (f:=Pa.row) (l:=y.ps) (j:=k) Zo
   have badk: ¬(x.ps[k].bare=y.ps[k].bare)->Q [pb false] []:=fun h=>bad fun he=>ZH9 hkp hkq (by rw [List.getElem_map,List.getElem_map];exact h) (congrArg (·.2.1) he)
   by_cases e1:x.ps[k].o=y.ps[k].o
   rotate_left
   ·simp(disch:=omega)[r3,r4,e1]
    exact badk fun h=>e1 (congrArg (·.1) h)
   simp(disch:=omega)[r3,r4,e1]
   refine ZI6 H (u2.get hk).2 (v2.get hkm).2 ?_
   by_cases e2:x.ps[k].t=y.ps[k].t
   ·rw [ZDz e2]
    simp(disch:=omega)
    exact RdN.mk (k+1) Zs ⟨hk,ZHh l2 hkp hkq (by rw [List.getElem_map,List.getElem_map,Pa.bare,Pa.bare,e1,e2])⟩ Zo
   ·rw [ZDy e2]
    simp(disch:=omega)
    exact badk fun h=>e2 (congrArg (·.2) h)
  ·have l3:=ZHu l2 (by rw [Yh];omega) (by rw [Yh];omega)
   simp(disch:=omega)
   exact RdN.mk (j+1) Zs ⟨hj,ZHh k2 hjp hjq (by rw [List.getElem_map,List.getElem_map,hX,hY,Me.bare,Me.bare,c1,c3,c4,l3])⟩ Zo
 have ec:=ZHu k2 (by rw [Yh];omega) (by rw [Yh];omega)
 simp(disch:=omega)
 rw [ZDz ⟨ef,ec⟩] at hQ
 exact hQ
def ZIM (H:Has S) (R:HR S) {m1 m2:Mo} (h1:Ok Pr.ok m1.ps) (h2:Ok Pr.ok m2.ps) {b:List Rz} (hb:(b++(ZDP Pr.s m1.ps).flatMap (Pr.rs m2)).length<68719476736)
  (hQ:Q [] [[.tip 2 (rzs (b++(ZDP Pr.s m1.ps).flatMap (Pr.rs m2)))]]):Gives S ZG5 [.one (.ref ⟨false,0,0⟩),.agg m1.cs',.agg m2.cs'] [[.tip 2 (rzs b)]] Q:=by
 have n1:=h1.1
 have n2:=h2.1
 have b1:(m1.ps.map Pr.row).length=m1.ps.length:=Yh _
 have b2:(m2.ps.map Pr.row).length=m2.ps.length:=Yh _
 refine .code R.zuReasonsProtocolsq rfl ?_
 simp(disch:=omega)[ZHc]
 refine Lp.rule (fun (i:Nat)=>[(0,.a (.one (.ref ⟨false,0,0⟩))),(4,.a (.one (.ref ⟨true,10004,0⟩))),(5,.a (.one (.ref ⟨true,10005,0⟩))),(6,.a (pi i)),(9999,.objs [[.tip 2 (rzs (upTo Pr.s (Pr.rs m2) m1.ps b i))]]),(10004,.a (.agg m1.cs')),(10005,.a (.agg m2.cs'))]) (fun i=>i<=m1.ps.length) (fun i=>m1.ps.length-i) (a₀:=0) (by simp [ZHI]) (Yd _) ?_
 intro i k1
 by_cases hi:i<m1.ps.length
 ·have r1:=ZG2 (f:=Pr.row) (l:=m1.ps) (j:=i) Zo
  have hlen:=ZHZ (f:=Pr.s) (g:=Pr.rs m2) (b:=b) (i:=i+1) (l:=m1.ps) hi
  have hx:=h1.get hi
  simp(disch:=omega)[r1]
  refine ZHE R n1 (fun h=>absurd rfl (h _ (Yl hi))) fun j hj=>?_
  obtain ⟨e1,e2⟩:=ZHN hi hj
  by_cases hji:j=i
  rotate_left
  ·have hji': ¬(j:Int)=i:=by omega
   simp(disch:=omega)[hji,hji']
   exact RdN.mk (i+1) (by rw [ZIh fun h=>hji (e1.2 h)];simp) hi Zo
  have ey:=ZHz (g:=Pr.rs m2) (b:=b) hi (e1.1 hji)
  subst hji
  simp(disch:=omega)[r1]
  generalize upTo Pr.s (Pr.rs m2) m1.ps b j=b' at*
  rw [ey] at hlen
  refine ZHE R n2 (fun h=>?_) (fun k hk=>?_)
  ·rw [show m1.ps[j].rs m2=[(1,ZDJ [m1.ps[j].s])] from by rw [Pr.rs,ZEC h],dot1] at ey hlen
   simp(disch:=omega)[r1]
   refine ZIf R Zo ?_
   simp(disch:=omega)
   exact RdN.mk (j+1) (by rw [ey];simp) hi Zo
  ·have hk1:=hk.1
   have r2:=ZG2 (f:=Pr.row) (l:=m2.ps) (j:=k) Zo
   rw [show m1.ps[j].rs m2=if dq (m1.ps[j].as=m2.ps[k].as/\m1.ps[j].ms.map Me.bare=m2.ps[k].ms.map Me.bare) then [] else [(5,ZDJ [m1.ps[j].s])] from by rw [Pr.rs,ZD2 hk],dot1] at ey hlen
   simp(disch:=omega)[r1,r2]
   refine ZJ2 H R hx (h2.get hk1) ?_
   by_cases c5:m1.ps[j].as=m2.ps[k].as/\m1.ps[j].ms.map Me.bare=m2.ps[k].ms.map Me.bare
   ·rw [ZDz c5,if_pos rfl,List.append_nil] at ey
    rw [ZDz c5]
    simp(disch:=omega)
    exact RdN.mk (j+1) (by rw [ey];simp) hi Zo
   ·rw [ZDy c5,if_neg Zd] at ey hlen
    rw [ZDy c5]
    simp(disch:=omega)
    refine ZIf R Zo ?_
    simp(disch:=omega)
    exact RdN.mk (j+1) (by rw [ey];simp) hi Zo
 ·rw [show i=m1.ps.length by omega,ZHY]
  simp(disch:=omega)
  exact hQ
end Go.Am.Fe
end
