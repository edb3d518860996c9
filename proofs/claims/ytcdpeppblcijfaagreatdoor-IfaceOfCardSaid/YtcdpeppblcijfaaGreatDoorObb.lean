/- Part. -/
import Derived.Test.YtcdpeppblcijfaaGreatDoorOaz
set_option maxRecDepth 999999
set_option maxHeartbeats 0
set_option linter.all false
section
namespace Go.Am.Fe
variable {S:SF} {Q:QF}
attribute [local simp] ZbO if_pos if_neg decide_eq_true decide_eq_false Yi Yj ZgF Ops.callv List.idxOf?_cons
end Go.Am.Fe
end
section
namespace Go.Am.Fe
variable {S:SF} {Q:QF}
attribute [local simp] ZbO if_pos if_neg decide_eq_true decide_eq_false Yi Yj ZgF Ops.callv List.idxOf?_cons
section
variable {α:Type} {f:α->LN} {g:α->List Rz} {l:List α} {b:List Rz} {i:Nat}
end
end Go.Am.Fe
end
section
namespace Go.Am.Fe
variable {S:SF} {Q:QF}
attribute [local simp] ZbO if_pos if_neg decide_eq_true decide_eq_false Yi Yj ZgF Ops.callv List.idxOf?_cons
end Go.Am.Fe
end
set_option maxRecDepth 999999
set_option maxHeartbeats 0
set_option linter.all false
section
namespace Go.Am.Fe
variable {S:SF} {Q:QF}
attribute [local simp] ZbO if_pos if_neg decide_eq_true decide_eq_false Yi Yj ZgF Ops.callv List.idxOf?_cons
def ZKj (H:Has S) (R:HR S) {l m:List Re} (hl:Ok Re.ok l) (hm:Ok Re.ok m) (hQ:Q [pb (dq (l=m))] []):Gives S ZIn [.one (.l 10 (l.map Re.row)),.one (.l 10 (m.map Re.row))] [] Q:=by
 have g1:=hl.1
 have g2:=hm.1
 have e1:(l.map Re.row).length=l.length:=Yh _
 have e2:(m.map Re.row).length=m.length:=Yh _
 refine .code R.zaEqReqs rfl ?_
 simp(disch:=omega)[ZJo]
 by_cases hlen:l.length=m.length
 ·simp(disch:=omega)[hlen]
  refine Lp.rule (fun (j:Nat)=>[(0,.a (.one (.l 10 (l.map Re.row)))),(1,.a (.one (.l 10 (m.map Re.row)))),(5,.a (pi j)),o9]) (fun j=>j<=l.length/\l.take j=m.take j) (fun j=>l.length-j) (a₀:=0) Zs ⟨Yd _,by simp⟩ ?_
  rintro j ⟨k1,k2⟩
  by_cases hj:j<l.length
  ·have hjm:j<m.length:=by omega
   have r1:=ZH9 (f:=Re.row) (l:=l) (j:=j) Zo
   have r2:=ZH9 (f:=Re.row) (l:=m) (j:=j) Zo
   simp(disch:=omega)[r1,r2]
   refine ZLo H R (hl.get hj) (hm.get hjm) ?_
   by_cases he:l[j]=m[j]
   ·rw [ZDz he]
    simp(disch:=omega)
    exact RdN.mk (j+1) Zs ⟨hj,ZJH k2 hj hjm he⟩ Zo
   ·rw [ZDy he]
    simp(disch:=omega)
    rw [ZDy (ZKY hj hjm he)] at hQ
    exact hQ
  ·simp(disch:=omega)
   rw [ZDz (ZJZ k2 Zo Zo)] at hQ
   exact hQ
 ·simp(disch:=omega)[hlen]
  rw [ZDy fun h=>hlen (by rw [h])] at hQ
  exact hQ
end Go.Am.Fe
end
section
namespace Go.Am.Fe
variable {S:Nat->Option Fn} {Q:List A->List (List C)->Prop}
attribute [local simp] ZbO if_pos if_neg decide_eq_true decide_eq_false Yi Yj ZgF Ops.callv List.idxOf?_cons
structure HZ (S:Nat->Option Fn):Prop where
 zaEqParams:S ZH2=some (.code ZIT)
 zaEqFunc:S ZIX=some (.code ZJt)
 zaEqFields:S ZIr=some (.code ZIP)
 zaEqCases:S ZIK=some (.code ZJd)
 zaEqNominal:S ZIb=some (.code ZIF)
 zaEqMethod:S ZIs=some (.code ZIR)
 zaEqProtocol:S ZHZ=some (.code ZIu)
 zaEqConf:S ZI1=some (.code ZJs)
 zaEqTables:S ZIp=some (.code ZIV)
 zaEqFuncs:S ZIM=some (.code ZI3)
 zaEqModule:S ZH8=some (.code ZIQ)
 zuSame:S ZJE=some (.code ZJY)
 zuZeroq:S ZJh=some (.code ZJF)
 zuIs:S ZKD=some (.code ZLf)
def Nd.ne_zero {x:Nd} (h:x.op≠0): ¬x=Nd.zero:=fun e=>h (by rw [e];rfl)
def Mo.Z (m:Mo):Prop:=(∀x∈m.ns,x.d=Nd.zero)/\ ∀f∈m.fs,f.b=Nd.zero
def Mo.bare_Z {m:Mo}:m.bare.Z:=⟨fun x hx=>by obtain ⟨y,_,rfl⟩:=List.mem_map.1 hx;rfl,fun x hx=>by obtain ⟨y,_,rfl⟩:=List.mem_map.1 hx;rfl⟩
def Mo.bare_bare {m:Mo}:m.bare.bare=m.bare:=by
 unfold Mo.bare
 simp only [YK]
 rfl
def ZKb (H:Has S) {b:Bool} (hQ:Q [pb true] []):Gives S ZgL [.agg (Nd.zero.row.map .p),.agg (Nd.zero.row.map .p),pb b] [] Q:=by
 rw [ZKS.1]
 refine .code H.Zw7 rfl ?_
 cases b
 all_goals
  simp(disch:=omega)[ZiB]
  refine ZKv H (t:=Ty.zero) (u:=Ty.zero) (by simp [Ty.fw,Ty.fws]) (by simp [Ty.fw,Ty.fws]) ?_
  rw [ZDz rfl]
  simp(disch:=omega)
  refine ZKU H (n:=1) (ZJG H 1) (a:=[]) (b:=[]) (by simp [Ty.szs]) ⟨by simp,by simp⟩ ⟨by simp,by simp⟩ ?_
  rw [ZDz rfl]
  simp(disch:=omega)
  refine .code H.ZuP rfl ?_
  simp(disch:=omega)[ZjJ]
  refine Lp.rule (fun (_:Unit)=>[(0,.a (.one (.p (.sl 10 [])))),(1,.a (.one (.p (.sl 10 [])))),(2,.a (pb _)),(7,.a (pi 0)),(9999,.objs [])]) (fun _=>True) (fun _=>0) (a₀:=()) (by simp<;>rfl) trivial ?_
  intro _ _
  simp(disch:=omega)
  exact hQ
def ZKx (H:Has S) {b:Bool} {x:Nd} (hx:x.op≠0) (hQ:Q [pb false] []):Gives S ZgL [.agg (x.row.map .p),.agg (Nd.zero.row.map .p),pb b] [] Q:=by
 rw [ZKS.1]
 refine .code H.Zw7 rfl ?_
 simp(disch:=omega)[ZiB,hx]
 exact hQ
def ZKC (H:Has S) {b:Bool} {x:Nd} (hx:x.op≠0) (hQ:Q [pb false] []):Gives S ZgL [.agg (Nd.zero.row.map .p),.agg (x.row.map .p),pb b] [] Q:=by
 rw [ZKS.1]
 refine .code H.Zw7 rfl ?_
 simp(disch:=omega)[ZiB,hx,Ne.symm hx]
 exact hQ
def ZK2 (H:Has S) {b:Bool} {x:Nd} (hx:x.nz) (hQ:Q [pb (dq (x= .zero))] []):Gives S ZgL [.agg (x.row.map .p),.agg (Nd.zero.row.map .p),pb b] [] Q:=by
 rcases hx with rfl|hx
 ·rw [ZDz rfl] at hQ;exact ZKb H hQ
 ·rw [ZDy (Nd.ne_zero hx)] at hQ;exact ZKx H hx hQ
def ZJ9 (H:Has S) {b:Bool} {x:Nd} (hx:x.nz) (hQ:Q [pb (dq (x= .zero))] []):Gives S ZgL [.agg (Nd.zero.row.map .p),.agg (x.row.map .p),pb b] [] Q:=by
 rcases hx with rfl|hx
 ·rw [ZDz rfl] at hQ;exact ZKb H hQ
 ·rw [ZDy (Nd.ne_zero hx)] at hQ;exact ZKC H hx hQ
def ZL8 (H:Has S) {l:List Ty} (hl:Ok Ty.fw l) (hQ:Q [pb true] []):Gives S ZdD [.one (.p (.sl 4 (Ty.encs l))),.one (.p (.sl 4 (Ty.encs l)))] [] Q:=
 ZKU H (n:=Ty.szs l+1) (ZJG H _) (Yz _) hl hl (by rw [ZDz rfl];exact hQ)
def ZKQ (H:Has S) (Z:HZ S) {l:List Pa} (hl:Ok Pa.ok l) (hQ:Q [pb true] []):Gives S ZH2 [.one (.p (.sl 6 (l.map Pa.row))),.one (.p (.sl 6 (l.map Pa.row)))] [] Q:=by
 have a1:=hl.1
 have b1:(l.map Pa.row).length=l.length:=Yh _
 refine .code Z.zaEqParams rfl ?_
 simp(disch:=omega)[ZIT]
 refine Lp.rule (fun (j:Nat)=>[(0,.a (.one (.p (.sl 6 (l.map Pa.row))))),(1,.a (.one (.p (.sl 6 (l.map Pa.row))))),(5,.a (pi j)),(9999,.objs [])]) (fun j=>j<=l.length) (fun j=>l.length-j) (a₀:=0) Zs (Yd _) ?_
 intro j k1
 by_cases hj:j<l.length
 ·have r1:=ZH9 (f:=Pa.row) (l:=l) (j:=j) Zo
  have hq:=(hl.get hj).2
  simp(disch:=omega)[r1]
  refine ZKv H hq hq ?_
  rw [ZDz rfl]
  simp(disch:=omega)
  exact RdN.mk (j+1) Zs hj Zo
 ·simp(disch:=omega)
  exact hQ
def ZLy (H:Has S) (Z:HZ S) {l:List Fi} (hl:Ok Fi.ok l) (hQ:Q [pb true] []):Gives S ZIr [.one (.p (.sl 6 (l.map Fi.row))),.one (.p (.sl 6 (l.map Fi.row)))] [] Q:=by
 have a1:=hl.1
 have b1:(l.map Fi.row).length=l.length:=Yh _
 refine .code Z.zaEqFields rfl ?_
 simp(disch:=omega)[ZIP]
 refine Lp.rule (fun (j:Nat)=>[(0,.a (.one (.p (.sl 6 (l.map Fi.row))))),(1,.a (.one (.p (.sl 6 (l.map Fi.row))))),(5,.a (pi j)),(9999,.objs [])]) (fun j=>j<=l.length) (fun j=>l.length-j) (a₀:=0) Zs (Yd _) ?_
 intro j k1
 by_cases hj:j<l.length
 ·have r1:=ZH9 (f:=Fi.row) (l:=l) (j:=j) Zo
  have hq:=(hl.get hj).2
  simp(disch:=omega)[r1]
  refine ZKv H hq hq ?_
  rw [ZDz rfl]
  simp(disch:=omega)
  exact RdN.mk (j+1) Zs hj Zo
 ·simp(disch:=omega)
  exact hQ
def ZLj (H:Has S) (Z:HZ S) {l:List Ca} (hl:Ok Ca.ok l) (hQ:Q [pb true] []):Gives S ZIK [.one (.p (.sl 3 (l.map Ca.row))),.one (.p (.sl 3 (l.map Ca.row)))] [] Q:=by
 have a1:=hl.1
 have b1:(l.map Ca.row).length=l.length:=Yh _
 refine .code Z.zaEqCases rfl ?_
 simp(disch:=omega)[ZJd]
 refine Lp.rule (fun (j:Nat)=>[(0,.a (.one (.p (.sl 3 (l.map Ca.row))))),(1,.a (.one (.p (.sl 3 (l.map Ca.row))))),(5,.a (pi j)),(9999,.objs [])]) (fun j=>j<=l.length) (fun j=>l.length-j) (a₀:=0) Zs (Yd _) ?_
 intro j k1
 by_cases hj:j<l.length
 ·have r1:=ZH9 (f:=Ca.row) (l:=l) (j:=j) Zo
  have hq:=hl.get hj
  simp(disch:=omega)[r1]
  refine ZL8 H ⟨hq.2.1,hq.2.2⟩ ?_
  simp(disch:=omega)
  exact RdN.mk (j+1) Zs hj Zo
 ·simp(disch:=omega)
  exact hQ
def ZL4 (H:Has S) (R:HR S) (Z:HZ S) {x:No} {b:Bool} (hx:x.ok) (hd:x.d.nz) (hQ:Q [pb (dq (x.d= .zero))] []):Gives S ZIb [.agg (x.bare.row.map .p),.agg (x.row.map .p),pb b] [] Q:=by
 obtain ⟨_,h1,h2,h3⟩:=hx
 refine .code Z.zaEqNominal rfl ?_
 simp(disch:=omega)[ZIF,No.bare]
 refine ZJp R h1 h1 ?_
 rw [ZDz rfl]
 simp(disch:=omega)
 refine ZLy H Z h2 ?_
 simp(disch:=omega)
 refine ZLj H Z h3 ?_
 simp(disch:=omega)
 refine ZJ9 H hd ?_
 simp(disch:=omega)
 exact hQ
def ZL3 (H:Has S) (Z:HZ S) {x:Me} (hx:x.ok) (hQ:Q [pb true] []):Gives S ZIs [.agg (x.row.map .p),.agg (x.row.map .p)] [] Q:=by
 obtain ⟨_,h1,h2,h3⟩:=hx
 refine .code Z.zaEqMethod rfl ?_
 simp(disch:=omega)[ZIR]
 refine ZKQ H Z h1 ?_
 simp(disch:=omega)
 refine ZKv H h2 h2 ?_
 rw [ZDz rfl]
 simp(disch:=omega)
 refine ZKv H h3 h3 ?_
 rw [ZDz rfl]
 simp(disch:=omega)
 exact hQ
def ZL0 (H:Has S) (R:HR S) (Z:HZ S) {x:Co} (hx:x.ok) (hQ:Q [pb true] []):Gives S ZI1 [.agg (x.row.map .p),.agg (x.row.map .p)] [] Q:=by
 obtain ⟨_,h1,h2,h3,h4,h5⟩:=hx
 refine .code Z.zaEqConf rfl ?_
 simp(disch:=omega)[ZJs]
 refine ZKv H h1 h1 ?_
 rw [ZDz rfl]
 simp(disch:=omega)
 refine ZJp R h2 h2 ?_
 rw [ZDz rfl]
 simp(disch:=omega)
 refine ZKj H R h3 h3 ?_
 rw [ZDz rfl]
 simp(disch:=omega)
 refine ZL8 H h4 ?_
 simp(disch:=omega)
 refine ZJp R h5 h5 ?_
 rw [ZDz rfl]
 simp(disch:=omega)
 exact hQ
def ZL2 (H:Has S) (R:HR S) (Z:HZ S) {f:Fu} {b:Bool} (hf:f.ok) (hd:f.b.nz) (hQ:Q [pb (dq (f.b= .zero))] []):Gives S ZIX [.agg (f.bare.row.map .p),.agg (f.row.map .p),pb b] [] Q:=by
 obtain ⟨x1,x2,x3,x4,x5,x6⟩:=hf
 refine .code Z.zaEqFunc rfl ?_
 simp(disch:=omega)[ZJt,Fu.bare]
 refine ZJp R x2 x2 ?_
 rw [ZDz rfl]
 simp(disch:=omega)
 refine ZKj H R x3 x3 ?_
 rw [ZDz rfl]
 simp(disch:=omega)
 refine ZKQ H Z x4 ?_
 simp(disch:=omega)
 refine ZKv H x5 x5 ?_
 rw [ZDz rfl]
 simp(disch:=omega)
 refine ZKv H x6 x6 ?_
 rw [ZDz rfl]
 simp(disch:=omega)
 refine ZJ9 H hd ?_
 simp(disch:=omega)
 exact hQ
def ZLZ (H:Has S) (R:HR S) (Z:HZ S) {x:Pr} (hx:x.ok) (hQ:Q [pb true] []):Gives S ZHZ [.agg (x.row.map .p),.agg (x.row.map .p)] [] Q:=by
 obtain ⟨_,h1,h2⟩:=hx
 have a1:=h1.1
 have a2:=h2.1
 have b1:(x.as.map As.row).length=x.as.length:=Yh _
 have b2:(x.ms.map Me.row).length=x.ms.length:=Yh _
 refine .code Z.zaEqProtocol rfl ?_
 simp(disch:=omega)[ZIu]
 refine Lp.rule (fun (j:Nat)=>[(2,.a (.one (.ref ⟨true,10002,0⟩))),(3,.a (.one (.ref ⟨true,10003,0⟩))),(5,.a (pi j)),(9999,.objs []),(10002,.a (.agg (x.row.map .p))),(10003,.a (.agg (x.row.map .p)))]) (fun j=>j<=x.as.length) (fun j=>x.as.length-j) (a₀:=0) Zs (Yd _) ?_
 intro j k1
 by_cases hj:j<x.as.length
 ·have r1:=ZH9 (f:=As.row) (l:=x.as) (j:=j) Zo
  have hq:=(h1.get hj).2
  simp(disch:=omega)[r1]
  refine ZJp R hq hq ?_
  rw [ZDz rfl]
  simp(disch:=omega)
  exact RdN.mk (j+1) Zs hj Zo
 simp(disch:=omega)
 refine Lp.rule (fun (j:Nat)=>[(2,.a (.one (.ref ⟨true,10002,0⟩))),(3,.a (.one (.ref ⟨true,10003,0⟩))),(6,.a (pi j)),(9999,.objs []),(10002,.a (.agg (x.row.map .p))),(10003,.a (.agg (x.row.map .p)))]) (fun j=>j<=x.ms.length) (fun j=>x.ms.length-j) (a₀:=0) Zs (Yd _) ?_
 clear hj k1 j
 intro j k1
 by_cases hj:j<x.ms.length
 ·have r1:=ZH9 (f:=Me.row) (l:=x.ms) (j:=j) Zo
  simp(disch:=omega)[r1]
  refine ZL3 H Z (h2.get hj) ?_
  simp(disch:=omega)
  exact RdN.mk (j+1) Zs hj Zo
 ·simp(disch:=omega)
  exact hQ
def ZJk {m:Mo}: ∃T U:List (List P),T.length=m.ns.length/\U.length=m.fs.length/\(∀j (h:j<m.ns.length) (h':j<T.length),T[j]=m.ns[j].bare.row)/\(∀j (h:j<m.fs.length) (h':j<U.length),U[j]=m.fs[j].bare.row)/\
  m.bare.cs'=[.p (.sl 17 T),.p (.sl 3 (m.ps.map Pr.row)),.p (.sl 9 (m.cs.map Co.row)),.p (.sl 22 U)]:=
 ⟨(m.ns.map No.bare).map No.row,(m.fs.map Fu.bare).map Fu.row,by simp,by simp,fun j h h'=>by simp,fun j h h'=>by simp,rfl⟩
def ZKl (H:Has S) (R:HR S) (Z:HZ S) {m:Mo} {b:Bool} (hm:m.okn) (hd: ∀x∈m.ns,x.d.nz) (hQ:Q [pb (dq (∀x∈m.ns,x.d= .zero))] []):Gives S ZIp [.agg m.bare.cs',.agg m.cs',pb b] [] Q:=by
 obtain ⟨T,U,hT,hU,gT,gU,e⟩:=ZJk (m:=m)
 have a1:=hm.n.1
 have a2:=hm.p.1
 have a3:=hm.c.1
 have b1:(m.ns.map No.row).length=m.ns.length:=Yh _
 have b2:(m.ps.map Pr.row).length=m.ps.length:=Yh _
 have b3:(m.cs.map Co.row).length=m.cs.length:=Yh _
 rw [e]
 refine .code Z.zaEqTables rfl ?_
 simp(disch:=omega)[ZIV,hT]
 refine Lp.rule (fun (j:Nat)=>[(2,.a (pb b)),(3,.a (.one (.ref ⟨true,10003,0⟩))),(4,.a (.one (.ref ⟨true,10004,0⟩))),(7,.a (pi j)),(9999,.objs []),(10003,.a (.agg [.p (.sl 17 T),.p (.sl 3 (m.ps.map Pr.row)),.p (.sl 9 (m.cs.map Co.row)),.p (.sl 22 U)])),(10004,.a (.agg m.cs'))]) (fun j=>j<=m.ns.length/\ ∀x∈m.ns.take j,x.d= .zero) (fun j=>m.ns.length-j) (a₀:=0) Zs ⟨Yd _,by simp⟩ ?_
 rintro j ⟨k1,k2⟩
 by_cases hj:j<m.ns.length
 ·have r1:=ZH9 (f:=No.row) (l:=m.ns) (j:=j) Zo
  have r2:=gT j hj Zo
  have hx:=Yl hj
  simp(disch:=omega)[r1,r2,hT]
  refine ZL4 H R Z (hm.n.2 _ hx).1 (hd _ hx) ?_
  by_cases hz:m.ns[j].d= .zero
  ·rw [ZDz hz]
   simp(disch:=omega)
   exact RdN.mk (j+1) Zs ⟨hj,ZEj hj k2 hz⟩ Zo
  ·rw [ZDy hz]
   rw [ZDy fun h=>hz (h _ hx)] at hQ
   simp(disch:=omega)
   exact hQ
 rw [Yg Zo] at k2
 rw [ZDz k2] at hQ
 simp(disch:=omega)[hT]
 refine Lp.rule (fun (j:Nat)=>[(3,.a (.one (.ref ⟨true,10003,0⟩))),(4,.a (.one (.ref ⟨true,10004,0⟩))),(8,.a (pi j)),(9999,.objs []),(10003,.a (.agg [.p (.sl 17 T),.p (.sl 3 (m.ps.map Pr.row)),.p (.sl 9 (m.cs.map Co.row)),.p (.sl 22 U)])),(10004,.a (.agg m.cs'))]) (fun j=>j<=m.ps.length) (fun j=>m.ps.length-j) (a₀:=0) Zs (Yd _) ?_
 clear hj k1 k2 j
 intro j k1
 by_cases hj:j<m.ps.length
 ·have r1:=ZH9 (f:=Pr.row) (l:=m.ps) (j:=j) Zo
  simp(disch:=omega)[r1]
  refine ZLZ H R Z (hm.p.get hj) ?_
  simp(disch:=omega)
  exact RdN.mk (j+1) Zs hj Zo
 simp(disch:=omega)
 refine Lp.rule (fun (j:Nat)=>[(3,.a (.one (.ref ⟨true,10003,0⟩))),(4,.a (.one (.ref ⟨true,10004,0⟩))),(9,.a (pi j)),(9999,.objs []),(10003,.a (.agg [.p (.sl 17 T),.p (.sl 3 (m.ps.map Pr.row)),.p (.sl 9 (m.cs.map Co.row)),.p (.sl 22 U)])),(10004,.a (.agg m.cs'))]) (fun j=>j<=m.cs.length) (fun j=>m.cs.length-j) (a₀:=0) Zs (Yd _) ?_
 clear hj k1 j
 intro j k1
 by_cases hj:j<m.cs.length
 ·have r1:=ZH9 (f:=Co.row) (l:=m.cs) (j:=j) Zo
  simp(disch:=omega)[r1]
  refine ZL0 H R Z (hm.c.get hj).1.1 ?_
  simp(disch:=omega)
  exact RdN.mk (j+1) Zs hj Zo
 ·simp(disch:=omega)
  exact hQ
def ZKw (H:Has S) (R:HR S) (Z:HZ S) {m:Mo} {b:Bool} {U:List (List P)} (hm:Ok Fu.okn m.fs) (hd: ∀x∈m.fs,x.b.nz) (hU:U.length=m.fs.length) (gU: ∀j (_:j<m.fs.length) (_:j<U.length),U[j]=m.fs[j].bare.row)
  (hQ:Q [pb (dq (∀x∈m.fs,x.b= .zero))] []):Gives S ZIM [.one (.p (.sl 22 U)),.one (.p (.sl 22 (m.fs.map Fu.row))),pb b] [] Q:=by
 have a1:=hm.1
 have b1:(m.fs.map Fu.row).length=m.fs.length:=Yh _
 refine .code Z.zaEqFuncs rfl ?_
 simp(disch:=omega)[ZI3,hU]
 refine Lp.rule (fun (j:Nat)=>[(0,.a (.one (.p (.sl 22 U)))),(1,.a (.one (.p (.sl 22 (m.fs.map Fu.row))))),(2,.a (pb b)),(7,.a (pi j)),(9999,.objs [])]) (fun j=>j<=m.fs.length/\ ∀x∈m.fs.take j,x.b= .zero) (fun j=>m.fs.length-j) (a₀:=0) Zs ⟨Yd _,by simp⟩ ?_
 rintro j ⟨k1,k2⟩
 by_cases hj:j<m.fs.length
 ·have r1:=ZH9 (f:=Fu.row) (l:=m.fs) (j:=j) Zo
  have r2:=gU j hj Zo
  have hx:=Yl hj
  simp(disch:=omega)[r1,r2,hU,Fu.bare]
  refine ZL2 H R Z (hm.2 _ hx).1 (hd _ hx) ?_
  by_cases hz:m.fs[j].b= .zero
  ·rw [ZDz hz]
   simp(disch:=omega)
   exact RdN.mk (j+1) Zs ⟨hj,ZEj hj k2 hz⟩ Zo
  ·rw [ZDy hz]
   rw [ZDy fun h=>hz (h _ hx)] at hQ
   simp(disch:=omega)
   exact hQ
 ·rw [Yg Zo] at k2
  rw [ZDz k2] at hQ
  simp(disch:=omega)[hU]
  exact hQ
def ZJL (H:Has S) (R:HR S) (Z:HZ S) {m:Mo} {b:Bool} (hm:m.okn) (h1: ∀x∈m.ns,x.d.nz) (h2: ∀x∈m.fs,x.b.nz) (hQ:Q [pb (dq m.Z)] []):Gives S ZH8 [.agg m.bare.cs',.agg m.cs',pb b] [] Q:=by
 have t:=fun Q=>ZKl (Q:=Q) (b:=b) H R Z hm h1
 obtain ⟨T,U,hT,hU,gT,gU,e⟩:=ZJk (m:=m)
 rw [e] at t⊢
 refine .code Z.zaEqModule rfl ?_
 simp(disch:=omega)[ZIQ]
 refine t _ ?_
 by_cases hz: ∀x∈m.ns,x.d= .zero
 ·rw [ZDz hz]
  simp(disch:=omega)
  refine ZKw H R Z hm.f h2 hU gU ?_
  rw [show m.Z=(∀x∈m.fs,x.b= .zero) from by simp only [Mo.Z,eq_iff_iff];exact ⟨And.right,fun h=>⟨hz,h⟩⟩] at hQ
  simp(disch:=omega)
  exact hQ
 ·rw [ZDy hz]
  rw [ZDy fun h=>hz h.1] at hQ
  simp(disch:=omega)
  exact hQ
def ZLc (H:Has S) (R:HR S) (Z:HZ S) {m:Mo} (hm:m.okn) (h1: ∀x∈m.ns,x.d.nz) (h2: ∀x∈m.fs,x.b.nz) (hQ:Q [pb (dq m.Z)] []):Gives S ZJE [.agg m.bare.cs',.agg m.cs'] [] Q:=by
 have t:=fun Q=>ZJL (Q:=Q) (b:=false) H R Z hm h1 h2
 obtain ⟨T,U,hT,hU,gT,gU,e⟩:=ZJk (m:=m)
 rw [e] at t⊢
 refine .code Z.zuSame rfl ?_
 simp(disch:=omega)[ZJY]
 refine t _ ?_
 simp(disch:=omega)
 exact hQ
def ZLE (H:Has S) (Z:HZ S) {x:Nd} (hx:x.nz) (hQ:Q [pb (dq (x= .zero))] []):Gives S ZJh [.agg (x.row.map .p)] [] Q:=by
 refine .code Z.zuZeroq rfl ?_
 simp(disch:=omega)[ZJF]
 refine ZK2 H hx ?_
 simp(disch:=omega)
 exact hQ
def ZLJ (H:Has S) (R:HR S) (Z:HZ S) {m:Mo} (hm:m.okn) (h1: ∀x∈m.ns,x.d.nz) (h2: ∀x∈m.fs,x.b.nz) (hb: ∀f∈m.fs,123∉f.s) (hQ:Q [pb (dq m.Z)] []):Gives S ZKD [.agg m.cs'] [] Q:=by
 have a1:=hm.n.1
 have a2:=hm.f.1
 have b1:(m.ns.map No.row).length=m.ns.length:=Yh _
 have b2:(m.fs.map Fu.row).length=m.fs.length:=Yh _
 refine .code Z.zuIs rfl ?_
 simp(disch:=omega)[ZLf]
 refine Lp.rule (fun (j:Nat)=>[(1,.a (.one (.ref ⟨true,10001,0⟩))),(3,.a (pi j)),(9999,.objs []),(10001,.a (.agg m.cs'))]) (fun j=>j<=m.ns.length/\ ∀x∈m.ns.take j,x.d= .zero) (fun j=>m.ns.length-j) (a₀:=0) Zs ⟨Yd _,by simp⟩ ?_
 rintro j ⟨k1,k2⟩
 by_cases hj:j<m.ns.length
 ·have r1:=ZH9 (f:=No.row) (l:=m.ns) (j:=j) Zo
  have hx:=Yl hj
  simp(disch:=omega)[r1]
  refine ZLE H Z (h1 _ hx) ?_
  by_cases hz:m.ns[j].d= .zero
  ·rw [ZDz hz]
   simp(disch:=omega)
   exact RdN.mk (j+1) Zs ⟨hj,ZEj hj k2 hz⟩ Zo
  ·rw [ZDy hz]
   rw [ZDy fun h=>hz (h.1 _ hx)] at hQ
   simp(disch:=omega)
   exact hQ
 rw [Yg Zo] at k2
 rw [show m.Z=(∀x∈m.fs,x.b= .zero) from by simp only [Mo.Z,eq_iff_iff];exact ⟨And.right,fun h=>⟨k2,h⟩⟩] at hQ
 simp(disch:=omega)
 refine Lp.rule (fun (j:Nat)=>[(1,.a (.one (.ref ⟨true,10001,0⟩))),(4,.a (pi j)),(9999,.objs []),(10001,.a (.agg m.cs'))]) (fun j=>j<=m.fs.length/\ ∀x∈m.fs.take j,x.b= .zero) (fun j=>m.fs.length-j) (a₀:=0) Zs ⟨Yd _,by simp⟩ ?_
 clear hj k1 k2 j
 rintro j ⟨k1,k2⟩
 by_cases hj:j<m.fs.length
 ·have r1:=ZH9 (f:=Fu.row) (l:=m.fs) (j:=j) Zo
  have hx:=Yl hj
  have hs:=(hm.f.get hj).1.1.1
  simp(disch:=omega)[r1]
  refine ZLE H Z (h2 _ hx) ?_
  by_cases hz:m.fs[j].b= .zero
  ·rw [ZDz hz]
   simp(disch:=omega)
   refine R.ib _ 123 Zd Zo (fun _=>?_) (fun h=>absurd h (hb _ hx))
   simp(disch:=omega)
   exact RdN.mk (j+1) Zs ⟨hj,ZEj hj k2 hz⟩ Zo
  ·rw [ZDy hz]
   rw [ZDy fun h=>hz (h _ hx)] at hQ
   simp(disch:=omega)
   exact hQ
 ·rw [Yg Zo] at k2
  rw [ZDz k2] at hQ
  simp(disch:=omega)
  exact hQ
end Go.Am.Fe
end
section
namespace Go.Am.Fe
variable {S:SF} {Q:QF}
attribute [local simp] ZbO if_pos if_neg decide_eq_true decide_eq_false Yi Yj ZgF Ops.callv List.idxOf?_cons
end Go.Am.Fe
end
