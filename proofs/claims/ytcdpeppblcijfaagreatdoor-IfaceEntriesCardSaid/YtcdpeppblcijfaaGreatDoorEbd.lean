/- Part. -/
import Derived.Test.YtcdpeppblcijfaaGreatDoorEbc
set_option maxRecDepth 999999
set_option maxHeartbeats 0
set_option linter.all false
section
namespace Go.Am.Fe
variable {S:SF} {Q:QF}
attribute [local simp] ZbO if_pos if_neg decide_eq_true decide_eq_false Yi Yj ZgF Ops.callv List.idxOf?_cons
def No.bare (x:No):No:=⟨x.s,x.k,x.gs,x.m,x.f,x.fs,x.cs,.zero⟩
def Fu.bare (f:Fu):Fu:=⟨f.s,f.gs,f.rs,f.ps,f.r,f.e,.zero⟩
def Mo.bare (m:Mo):Mo:=⟨m.ns.map No.bare,m.ps,m.cs,m.fs.map Fu.bare⟩
def Mo.bare_okn {m:Mo} (h:m.okn):m.bare.okn:=⟨h.n.map fun _ h=>h,h.p,h.c,h.f.map fun _ h=>h⟩
def Mo.Good.nobrace {m:Mo} (h:m.Good): ∀f∈m.fs,123∉f.s:=fun f hf=>(h.f.2 f hf).2.2.2
def ZKf (R:HR S) {m:Mo} (hm:m.okn) (hb: ∀f∈m.fs,123∉f.s) (hQ:Q [.agg m.bare.cs'] []):Gives S ZJk [.agg m.cs'] [] Q:=by
 have n1:=hm.n.1
 have n2:=hm.f.1
 have b1:(m.ns.map No.row).length=m.ns.length:=Yh _
 have b2:(m.fs.map Fu.row).length=m.fs.length:=Yh _
 refine .code R.zuOf rfl ?_
 simp(disch:=omega)[ZJN]
 obtain ⟨T,hT⟩: ∃T,T=(m.ns.map No.bare).map No.row:=⟨_,rfl⟩
 have hTl:T.length=m.ns.length:=by rw [hT,Yh,Yh]
 have hTs: ∀(j:Nat) (hj:j<m.ns.length),T.take (j+1)=T.take j++[m.ns[j].bare.row]:=fun j hj=>by
  rw [Ym,hT,Yn,Yn,Ya hj];rfl
 obtain ⟨U,hU⟩: ∃U,U=(m.fs.map Fu.bare).map Fu.row:=⟨_,rfl⟩
 have hUl:U.length=m.fs.length:=by rw [hU,Yh,Yh]
 have hUs: ∀(j:Nat) (hj:j<m.fs.length),U.take (j+1)=U.take j++[m.fs[j].bare.row]:=fun j hj=>by
  rw [Ym,hU,Yn,Yn,Ya hj];rfl
 have hcs:m.bare.cs'=[.l 17 T,.l 3 (m.ps.map Pr.row),.l 9 (m.cs.map Co.row),.l 22 U]:=by rw [hT,hU];rfl
 rw [hcs] at hQ
 refine Lp.rule (fun (j:Nat)=>[(1,.a (.one (.ref ⟨true,10001,0⟩))),(2,.a (.one (.ref ⟨true,10002,0⟩))),(3,.a (.one (.ref ⟨true,10003,0⟩))),(4,.a (pi j)),o9,(10001,.a (.agg m.cs')),(10002,.a (.agg [.tip 17 [],.tip 3 [],.tip 9 [],.tip 22 []])),(10003,.a (.agg [.tip 17 (T.take j),.l 3 (m.ps.map Pr.row),.l 9 (m.cs.map Co.row),.tip 22 []]))]) (fun j=>j<=m.ns.length) (fun j=>m.ns.length-j) (a₀:=0) Zs (Yd _) ?_
 intro j k1
 by_cases hj:j<m.ns.length
 ·have r1:=ZG2 (f:=No.row) (l:=m.ns) (j:=j) Zo
  have el:(T.take j).length<=100000:=by rw [List.length_take];omega
  have e1:=hTs j hj
  simp(disch:=omega)[r1]
  exact RdN.mk (j+1) (by rw [e1];simp [No.bare];exact ⟨rfl,rfl,rfl,rfl,rfl,rfl,rfl,rfl,rfl,rfl⟩) hj Zo
 rw [show T.take j=T from Yg Zo]
 simp(disch:=omega)
 refine Lp.rule (fun (j:Nat)=>[(1,.a (.one (.ref ⟨true,10001,0⟩))),(2,.a (.one (.ref ⟨true,10002,0⟩))),(3,.a (.one (.ref ⟨true,10003,0⟩))),(6,.a (pi j)),o9,(10001,.a (.agg m.cs')),(10002,.a (.agg [.tip 17 [],.tip 3 [],.tip 9 [],.tip 22 []])),(10003,.a (.agg [.tip 17 T,.l 3 (m.ps.map Pr.row),.l 9 (m.cs.map Co.row),.tip 22 (U.take j)]))]) (fun j=>j<=m.fs.length) (fun j=>m.fs.length-j) (a₀:=0) Zs (Yd _) ?_
 clear hj k1 j
 intro j k1
 by_cases hj:j<m.fs.length
 ·have r1:=ZG2 (f:=Fu.row) (l:=m.fs) (j:=j) Zo
  have el:(U.take j).length<=100000:=by rw [List.length_take];omega
  have e1:=hUs j hj
  have hs:=(hm.f.get hj).1.1.1
  simp(disch:=omega)[r1]
  refine R.ib _ 123 Zd Zo (fun _=>?_) (fun h=>absurd h (hb _ (Yl hj)))
  simp(disch:=omega)
  exact RdN.mk (j+1) (by rw [e1];simp [Fu.bare];exact ⟨rfl,rfl,rfl,rfl,rfl,rfl,rfl,rfl,rfl,rfl⟩) hj Zo
 ·rw [show U.take j=U from Yg Zo]
  simp(disch:=omega)
  exact hQ
abbrev TabW (S:SF) (src:LN):Prop:= ∀Q:QF,(∀(m:Mo) (ok:Bool),m.Good->(ok=true->ZH8 m)->Q [.agg m.cs',pb ok] [])->Gives S Zgf [ps src,pi 4000] [] Q
end Go.Am.Fe
end
section
namespace Go.Am.Fe
variable {S:Nat->Option Fn} {Q:List A->List (List C)->Prop}
attribute [local simp] ZbO if_pos if_neg decide_eq_true decide_eq_false Yi Yj ZgF Ops.callv List.idxOf?_cons
structure HE (S:Nat->Option Fn):Prop where
 zaEqParams:S ZwD=some (.code ZBt)
 zaEqFunc:S ZEr=some (.code ZE2)
def ZGr (H:Has S) (hQ:Q [pb true] []):Gives S ZgL [.agg (Nd.zero.row.map .p),.agg (Nd.zero.row.map .p),pb true] [] Q:=by
 rw [ZKE.1]
 refine .code H.Zw7 rfl ?_
 simp(disch:=omega)[ZiB]
 refine ZI6 H (t:=Ty.zero) (u:=Ty.zero) (by simp [Ty.fw,Ty.fws]) (by simp [Ty.fw,Ty.fws]) ?_
 rw [ZDz rfl]
 simp(disch:=omega)
 refine ZKk H (n:=1) (ZI7 H 1) (a:=[]) (b:=[]) (by simp [Ty.szs]) ⟨by simp,by simp⟩ ⟨by simp,by simp⟩ ?_
 rw [ZDz rfl]
 simp(disch:=omega)
 refine .code H.ZuP rfl ?_
 simp(disch:=omega)[ZjJ]
 refine Lp.rule (fun (_:Unit)=>[(0,.a (.one (.p (.sl 10 [])))),(1,.a (.one (.p (.sl 10 [])))),(2,.a (pb true)),(7,.a (pi 0)),(9999,.objs [])]) (fun _=>True) (fun _=>0) (a₀:=()) Zs trivial ?_
 intro _ _
 simp(disch:=omega)
 exact hQ
def ZFp (H:Has S) (E:HE S) {l:List Pa} (hl:Ok Pa.ok l) (hQ:Q [pb true] []):Gives S ZwD [.one (.p (.sl 6 (l.map Pa.row))),.one (.p (.sl 6 (l.map Pa.row)))] [] Q:=by
 have a1:=hl.1
 have b1:(l.map Pa.row).length=l.length:=Yh _
 refine .code E.zaEqParams rfl ?_
 simp(disch:=omega)[ZBt]
 refine Lp.rule (fun (j:Nat)=>[(0,.a (.one (.p (.sl 6 (l.map Pa.row))))),(1,.a (.one (.p (.sl 6 (l.map Pa.row))))),(5,.a (pi j)),(9999,.objs [])]) (fun j=>j<=l.length) (fun j=>l.length-j) (a₀:=0) Zs (Yd _) ?_
 intro j k1
 by_cases hj:j<l.length
 ·have r1:=ZG2 (f:=Pa.row) (l:=l) (j:=j) Zo
  have hq:=(hl.get hj).2
  simp(disch:=omega)[r1]
  refine ZI6 H hq hq ?_
  rw [ZDz rfl]
  simp(disch:=omega)
  exact RdN.mk (j+1) Zs hj Zo
 ·simp(disch:=omega)
  exact hQ
def ZGl (H:Has S) (R:HR S) (E:HE S) {f:Fu} (hf:f.ok) (hg:f.gs.length<=100000) (hb:f.b= .zero) (hQ:Q [pb true] []):Gives S ZEr [.agg (f.row.map .p),.agg (f.row.map .p),pb true] [] Q:=by
 obtain ⟨x1,x2,x3,x4,x5,x6⟩:=hf
 refine .code E.zaEqFunc rfl ?_
 simp(disch:=omega)[ZE2]
 refine ZI8 R hg hg ?_
 rw [ZDz rfl]
 simp(disch:=omega)
 refine ZJI H R x3 x3 ?_
 rw [ZDz rfl]
 simp(disch:=omega)
 refine ZFp H E x4 ?_
 simp(disch:=omega)
 refine ZI6 H x5 x5 ?_
 rw [ZDz rfl]
 simp(disch:=omega)
 refine ZI6 H x6 x6 ?_
 rw [ZDz rfl]
 simp(disch:=omega)
 rw [hb]
 refine ZGr H ?_
 simp(disch:=omega)
 exact hQ
def ZGP {α:Type} {p:α->Prop}: ∀{l:List α},(∃g∈l,p g)-> ∃i,∃h:i<l.length,p l[i]/\ ∀g∈l.take i,¬p g
 | a::l,⟨g,hg,hp⟩=>by
   by_cases ha:p a
   · exact ⟨0,by simp,ha,by simp⟩
   · rcases List.mem_cons.1 hg with rfl|hg
     · exact absurd hp ha
     · obtain ⟨i,hi,h1,h2⟩:=ZGP ⟨g,hg,hp⟩
       refine ⟨i+1,by simp;omega,h1,fun x hx=>?_⟩
       rw [List.take_succ_cons] at hx
       rcases List.mem_cons.1 hx with rfl|hx
       · exact ha
       · exact h2 x hx
def ZKw {α:Type} {p q:α->Prop} {l:List α} (hpq: ∀g∈l,p g↔q g) {i j:Nat} (hi:i<l.length) (hj:j<l.length) (pi:p l[i]) (ni: ∀g∈l.take i,¬p g) (qj:q l[j]) (nj: ∀g∈l.take j,¬q g):i=j:=by
 rcases Nat.lt_trichotomy i j with h|h|h
 ·exact absurd ((hpq _ (Yl hi)).1 pi) (nj _ (List.mem_take_iff_getElem.2 ⟨i,by omega,rfl⟩))
 ·exact h
 ·exact absurd ((hpq _ (Yl hj)).2 qj) (ni _ (List.mem_take_iff_getElem.2 ⟨j,by omega,rfl⟩))
def ZFu (H:Has S) (G:HG S) (R:HR S) {m:Mo} {f:Fu} (hm:Ok Fu.okk m.fs) (hf:f.okk): ∃(s:List Nat) (b:Bool),∀Q:List A->List (List C)->Prop,Q [ps s,pb b] []->Gives S Zh1 [.agg m.cs',.agg (f.row.map .p)] [] Q/\Gives S ZH5 [.agg m.cs',.agg (f.row.map .p)] [] Q:=by
 have hs: ∀g∈m.fs,f.ent g↔g.ent f:=fun g hg=>⟨fun h=>h.symm' hf.2 (hm.2 g hg),fun h=>h.symm' (hm.2 g hg).2 hf⟩
 have ho:Ok Fu.okn m.fs:=hm.imp fun _ h=>h.1
 by_cases h: ∃g∈m.fs,f.ent g
 ·obtain ⟨i,hi,h1,h2⟩:=ZGP h
  refine ⟨m.fs[i].s,true,fun Q hQ=>⟨ZF1 G ho hf.1 (fun h0=>absurd h1 (h0 _ (Yl hi))) fun j hj k1 k2=>?_,ZJw H R ho hf.1 (fun h0=>absurd ((hs _ (Yl hi)).1 h1) (h0 _ (Yl hi))) fun j hj k1 k2=>?_⟩⟩
  ·obtain rfl:=ZKw (fun _ _=>Iff.rfl) hi hj h1 h2 k1 k2
   exact hQ
  ·obtain rfl:=ZKw hs hi hj h1 h2 k1 k2
   exact hQ
 ·refine ⟨[],false,fun Q hQ=>⟨ZF1 G ho hf.1 (fun _=>hQ) fun j hj k1 _=>absurd ⟨_,Yl hj,k1⟩ h,ZJw H R ho hf.1 (fun _=>hQ) fun j hj k1 _=>absurd ⟨_,Yl hj,(hs _ (Yl hj)).2 k1⟩ h⟩⟩
def ZF8 (H:HG S) {x:Fu} (hx:x.ok') {hs:List (List Nat)} (hh:hs.length<=100000) (hl: ¬x.gs.length=hs.length) (hQ:Q [.agg (x.row.map .p)] []):Gives S Ziy [.agg (x.row.map .p),.one (.p (.sl 1 (strs hs)))] [] Q:=by
 have hx':=hx
 obtain ⟨⟨_,h1,h2,h3,h4,h5⟩,h6⟩:=hx'
 have g0:(strs hs).length=hs.length:=by simp [strs]
 have g1:(strs x.gs).length=x.gs.length:=by simp [strs]
 have g3:=h3.1
 refine .code H.ifaceRenamed rfl ?_
 simp(disch:=omega)[ZmP]
 refine ZGi H hx ?_
 simp(disch:=omega)[g0,g1,hl,ZGs,Fu.uniq]
 exact hQ
def ZFS (R:HR S) {f:Fu} (hf:f.okn) {gs:List (List Nat)} (hg:gs.length<=100000) (hl: ¬f.gs.length=gs.length) (hQ:Q [.agg (f.row.map .p)] []):Gives S ZHH [.agg (f.row.map .p),.one (.p (.sl 1 (strs gs)))] [] Q:=by
 obtain ⟨⟨x1,x2,x3,x4,x5,x6⟩,x7⟩:=hf
 have gf:(strs f.gs).length=f.gs.length:=by simp [strs]
 have gg:(strs gs).length=gs.length:=by simp [strs]
 refine .code R.zuRenamed rfl ?_
 simp(disch:=omega)[ZH4,gf,gg,hl,fun h=>hl (Eq.symm h)]
 exact hQ
def ZFn (H:Has S) (G:HG S) (R:HR S) {f:Fu} (hf:f.okn) (hb:f.b= .zero) {gs:List (List Nat)} (hg:gs.length<=100000): ∃g:Fu,g.ok/\g.gs.length<=100000/\g.b= .zero/\ ∀Q:List A->List (List C)->Prop,Q [.agg (g.row.map .p)] []->Gives S Ziy [.agg (f.row.map .p),.one (.p (.sl 1 (strs gs)))] [] Q/\Gives S ZHH [.agg (f.row.map .p),.one (.p (.sl 1 (strs gs)))] [] Q:=by
 have hf':f.ok':=⟨hf.1,hb ▸ Nd.zero_fit⟩
 by_cases hl:f.gs.length=gs.length
 ·exact ⟨f.ren gs,⟨hf.1.1,hg,hf.1.2.2.1.map Re.put_ok,hf.1.2.2.2.1.map Pa.put_ok,Ty.put_fw hf.1.2.2.2.2.1,Ty.put_fw hf.1.2.2.2.2.2⟩,hg,hb,fun Q hQ=>⟨ZFF G hf' hg hl.symm hQ,ZJu H R hf hg hl hQ⟩⟩
 ·exact ⟨f,hf.1,hf.2.1,hb,fun Q hQ=>⟨ZF8 G hf' hg hl hQ,ZFS R hf hg hl hQ⟩⟩
def Fu.kn_bare {f:Fu} (h:f.kn):f.bare.kn:=⟨h.nd,h.rs,h.ps,h.r,h.e⟩
def ZEG (H:Has S) (G:HG S) (R:HR S) (E:HE S) (HL:S Ztg=some (.code Zwb))
  (HA: ∀Q:List A->List (List C)->Prop,Q [pb true] []->Gives S Zd3 [] [] Q) {a b:List Nat} {ns:List (List Nat)} (H1:TabW S a) (H2:TabW S b)
  (hQ:Q [pb true] []):Gives S Ztg [ps a,ps b,.one (.p (.sl 1 (strs ns)))] [] Q:=by
 have gn:(strs ns).length=ns.length:=by simp [strs]
 refine .code HL rfl ?_
 simp(disch:=omega)[Zwb]
 refine H1 _ fun x i hx _=>?_
 simp(disch:=omega)
 refine H2 _ fun y j hy _=>?_
 simp(disch:=omega)
 cases i
 ·simp(disch:=omega)
  refine HA _ ?_
  simp(disch:=omega)
  exact hQ
 cases j
 ·simp(disch:=omega)
  refine HA _ ?_
  simp(disch:=omega)
  exact hQ
 simp(disch:=omega)
 by_cases hn:ns.length>20
 ·simp(disch:=omega)[gn,hn]
  refine HA _ ?_
  simp(disch:=omega)
  exact hQ
 simp(disch:=omega)[gn,hn]
 refine ZKf R hy.okn hy.nobrace ?_
 simp(disch:=omega)
 have b1:(y.bare.fs.map Fu.row).length=y.bare.fs.length:=Yh _
 have b2:=(Mo.bare_okn hy.okn).f.1
 refine Lp.rule (fun (j:Nat)=>[(2,.a (.one (.p (.sl 1 (strs ns))))),(7,.a (.one (.ref ⟨true,10007,0⟩))),(9,.a (.one (.ref ⟨true,10009,0⟩))),(11,.a (pi j)),(9999,.objs []),(10007,.a (.agg x.cs')),(10009,.a (.agg y.bare.cs'))]) (fun j=>j<=y.bare.fs.length) (fun j=>y.bare.fs.length-j) (a₀:=0) Zs (Yd _) ?_
 intro j k1
 by_cases hj:j<y.bare.fs.length
 ·have r1:=ZG2 (f:=Fu.row) (l:=y.bare.fs) (j:=j) Zo
  have hf:=(Mo.bare_okn hy.okn).f.get hj
  have hz:y.bare.fs[j].b= .zero:=by simp [Mo.bare,Fu.bare]
  obtain ⟨w,c,he⟩:=ZFu H G R (m:=x) (f:=y.bare.fs[j]) (hx.f.imp fun _ h=>⟨h.1,h.2.2.1⟩) ⟨hf,((hy.f.imp fun _ h=>h.2.2.1).map (f:=Fu.bare) fun _ h=>Fu.kn_bare h).get hj⟩
  obtain ⟨g,g1,g2,g3,hr⟩:=ZFn H G R hf hz (gs:=ns) Zo
  simp(disch:=omega)[r1]
  refine (he _ ?_).1
  simp(disch:=omega)[r1]
  refine (he _ ?_).2
  simp(disch:=omega)[r1]
  refine (hr _ ?_).1
  simp(disch:=omega)[r1]
  refine (hr _ ?_).2
  simp(disch:=omega)
  refine ZGl H R E g1 g2 g3 ?_
  simp(disch:=omega)
  exact RdN.mk (j+1) Zs hj Zo
 ·simp(disch:=omega)
  refine HA _ ?_
  simp(disch:=omega)
  exact hQ
end Go.Am.Fe
end
