/- Part. -/
import Derived.Test.YtcdjoaepciegnaaGreatDoorXap
import Derived.Test.YtcdjoaepciegnaaGreatDoorXai
set_option maxRecDepth 999999
set_option maxHeartbeats 0
set_option linter.all false
section
namespace Go.Am.Fe
variable {S:Nat->Option Fn} {Q:List A->List (List C)->Prop}
attribute [local simp] ZbO if_pos if_neg decide_eq_true decide_eq_false Yi Yj ZgF Ops.callv List.idxOf?_cons
end Go.Am.Fe
end
section
namespace Go.Am.Fe
variable {S:Nat->Option Fn} {Q:List A->List (List C)->Prop}
attribute [local simp] ZbO if_pos if_neg decide_eq_true decide_eq_false Yi Yj ZgF Ops.callv List.idxOf?_cons
attribute [local simp] Ty.encs_length
def ZHG {α:Type} {f:α->List P} {l:List α} {j:Nat} (h:j<(l.map f).length):(l.map f)[j]=f (l[j]'(by simpa using h)):=List.getElem_map ..
def ZIY {α:Type} {a b:List α} {j:Nat} (h:a.take j=b.take j) (ha:j<a.length) (hb:j<b.length) (he:a[j]=b[j]):a.take (j+1)=b.take (j+1):=by
 rw [Ym,Ym,h,Ya ha,Ya hb,he]
def ZJC {α:Type} {a b:List α} {j:Nat} (h:a.take j=b.take j) (ha:a.length<=j) (hb:b.length<=j):a=b:=by
 rwa [Yg ha,Yg hb] at h
def ZL0 {α:Type} {a b:List α} {j:Nat} (ha:j<a.length) (hb:j<b.length) (h:a[j]≠b[j]):a≠b:=fun e=>h (by subst e;rfl)
def ZLx {l:List (List Nat)} {j:Nat} (h:j<(strs l).length):(strs l)[j]=[.str (l[j]'(by simpa [strs] using h))]:=by simp [strs]
def EqT (S:Nat->Option Fn) (n:Nat):Prop:= ∀(t u:Ty) (Q:List A->List (List C)->Prop),t.sz<n->t.fw->u.fw->Q [pb (dq (t=u))] []->Gives S ZbG [.agg t.cs,.agg u.cs] [] Q
def Ty.fw_args {t:Ty} (h:t.fw):Ok Ty.fw t.a:=⟨Ty.fw_len h,fun x hx=>by cases t;exact Ty.fws_mem h.2 x hx⟩
def ZMD (H:Has S) {n:Nat} (ih:EqT S n) {a b:List Ty} (hm:Ty.szs a<n) (h1:Ok Ty.fw a) (h2:Ok Ty.fw b) (hQ:Q [pb (dq (a=b))] []):Gives S ZdD [.one (.p (.sl 4 (Ty.encs a))),.one (.p (.sl 4 (Ty.encs b)))] [] Q:=by
 have g1:=h1.1
 have g2:=h2.1
 have e1:(Ty.encs a).length=a.length:=Ty.encs_length
 have e2:(Ty.encs b).length=b.length:=Ty.encs_length
 refine .code H.ZqJ rfl ?_
 simp(disch:=omega)[Zhc]
 by_cases hl:a.length=b.length
 ·simp(disch:=omega)[hl]
  refine Lp.rule (fun (j:Nat)=>[(0,.a (.one (.p (.sl 4 (Ty.encs a))))),(1,.a (.one (.p (.sl 4 (Ty.encs b))))),(5,.a (pi j)),(9999,.objs [])]) (fun j=>j<=a.length/\a.take j=b.take j) (fun j=>a.length-j) (a₀:=0) Zs ⟨Yd _,by simp⟩ ?_
  rintro j ⟨k1,k2⟩
  by_cases hj:j<a.length
  ·have hjb:j<b.length:=by omega
   have r1:=Ty.encs_get (l:=a) (j:=j) Zo
   have r2:=Ty.encs_get (l:=b) (j:=j) Zo
   simp(disch:=omega)[r1,r2]
   refine ih _ _ _ (by have:=Ty.szs_get hj;omega) (h1.2 _ (Yl hj)) (h2.2 _ (Yl hjb)) ?_
   by_cases he:a[j]=b[j]
   ·rw [ZDz he]
    simp(disch:=omega)
    exact RdN.mk (j+1) Zs ⟨hj,ZIY k2 hj hjb he⟩ Zo
   ·rw [ZDy he]
    simp(disch:=omega)
    rw [ZDy (ZL0 hj hjb he)] at hQ
    exact hQ
  ·simp(disch:=omega)
   rw [ZDz (ZJC k2 Zo Zo)] at hQ
   exact hQ
 ·simp(disch:=omega)[hl]
  rw [ZDy fun h=>hl (by rw [h])] at hQ
  exact hQ
def ZJE (H:Has S): ∀n,EqT S n
 | 0=>fun _ _ _ h=>absurd h (YH _)
 | n+1=>by
   intro t u Q hm h1 h2 hQ
   have ih:=ZJE H n
   refine .code H.Ztw rfl ?_
   simp(disch:=omega)[Ziv]
   by_cases e1:t.k=u.k
   · by_cases e2:t.s=u.s
     · by_cases e3:t.n=u.n
       · simp(disch:=omega)[e1,e2,e3]
         refine ZMD H ih (by cases t;simp [Ty.sz,Ty.a] at hm⊢;omega) (Ty.fw_args h1) (Ty.fw_args h2) ?_
         simp(disch:=omega)
         rwa [show (dq (t.a=u.a))=dq (t=u) from by
           by_cases e4:t.a=u.a
           · rw [ZDz e4,ZDz (Ty.ext e1 e2 e3 e4)]
           · rw [ZDy e4,ZDy fun h=>e4 (by rw [h])]]
       · rw [ZDy fun h=>e3 (by rw [h])] at hQ
         simp(disch:=omega)[e1,e2,e3]
         exact hQ
     · rw [ZDy fun h=>e2 (by rw [h])] at hQ
       simp(disch:=omega)[e1,e2]
       exact hQ
   · rw [ZDy fun h=>e1 (by rw [h])] at hQ
     simp(disch:=omega)[e1]
     exact hQ
def ZLv (H:Has S) {t u:Ty} (h1:t.fw) (h2:u.fw) (hQ:Q [pb (dq (t=u))] []):Gives S ZbG [.agg t.cs,.agg u.cs] [] Q:=ZJE H _ t u Q (Yz _) h1 h2 hQ
def ZIX (R:HM S) {a b:List (List Nat)} (h1:a.length<=9223372036854775807) (h2:b.length<=9223372036854775807) (hQ:Q [pb (dq (a=b))] []):Gives S ZG9 [.one (.p (.sl 1 (strs a))),.one (.p (.sl 1 (strs b)))] [] Q:=by
 have e1:(strs a).length=a.length:=by simp [strs]
 have e2:(strs b).length=b.length:=by simp [strs]
 refine .code R.zaEqStrings rfl ?_
 simp(disch:=omega)[ZHE]
 by_cases hl:a.length=b.length
 ·simp(disch:=omega)[hl]
  refine Lp.rule (fun (j:Nat)=>[(0,.a (.one (.p (.sl 1 (strs a))))),(1,.a (.one (.p (.sl 1 (strs b))))),(5,.a (pi j)),(9999,.objs [])]) (fun j=>j<=a.length/\a.take j=b.take j) (fun j=>a.length-j) (a₀:=0) Zs ⟨Yd _,by simp⟩ ?_
  rintro j ⟨k1,k2⟩
  by_cases hj:j<a.length
  ·have hjb:j<b.length:=by omega
   have r1:=ZLx (l:=a) (j:=j) Zo
   have r2:=ZLx (l:=b) (j:=j) Zo
   by_cases he:a[j]=b[j]
   ·simp(disch:=omega)[r1,r2,he]
    exact RdN.mk (j+1) Zs ⟨hj,ZIY k2 hj hjb he⟩ Zo
   ·rw [ZDy (ZL0 hj hjb he)] at hQ
    simp(disch:=omega)[r1,r2,he]
    exact hQ
  ·simp(disch:=omega)
   rw [ZDz (ZJC k2 Zo Zo)] at hQ
   exact hQ
 ·simp(disch:=omega)[hl]
  rw [ZDy fun h=>hl (by rw [h])] at hQ
  exact hQ
end Go.Am.Fe
end
section
namespace Go.Am.Fe
variable {S:Nat->Option Fn} {Q:List A->List (List C)->Prop}
attribute [local simp] ZbO if_pos if_neg decide_eq_true decide_eq_false Yi Yj ZgF Ops.callv List.idxOf?_cons
def Nd.encs_rows: ∀(l:List Nd),Nd.encs l=l.map Nd.row
 | []=>rfl
 | t::l=>by rw [Nd.encs,Nd.encs_rows l,Nd.enc_row];rfl
def Nd.szs_mem: ∀{l:List Nd},∀t∈l,t.sz<=Nd.szs l
 | t::l,u,hu=>by
   rcases List.mem_cons.1 hu with rfl|hu
   · simp [Nd.szs]
   · have:=Nd.szs_mem u hu;simp [Nd.szs];omega
def Nd.sz_l {t:Nd}:Nd.szs t.l<t.sz:=by cases t;simp [Nd.sz,Nd.l];omega
def ZMx (H:Has S) (R:HM S) {x y:Re} (hx:x.ok) (hy:y.ok) (hQ:Q [pb (dq (x=y))] []):Gives S ZIn [.agg (x.row.map .p),.agg (y.row.map .p)] [] Q:=by
 refine .code R.zaEqReq rfl ?_
 simp(disch:=omega)[ZI1]
 by_cases e1:x.k=y.k
 ·by_cases e2:x.p=y.p
  ·simp(disch:=omega)[e1,e2]
   refine ZLv H hx.1 hy.1 ?_
   by_cases e3:x.t=y.t
   ·rw [ZDz e3]
    simp(disch:=omega)
    refine ZLv H hx.2 hy.2 ?_
    simp(disch:=omega)
    rwa [show dq (x.o=y.o)=dq (x=y) from by
     by_cases e4:x.o=y.o
     ·rw [ZDz e4,ZDz (by cases x;cases y;simp_all)]
     ·rw [ZDy e4,ZDy fun h=>e4 (by rw [h])]]
   ·rw [ZDy fun h=>e3 (by rw [h])] at hQ
    rw [ZDy e3]
    simp(disch:=omega)
    exact hQ
  ·rw [ZDy fun h=>e2 (by rw [h])] at hQ
   simp(disch:=omega)[e1,e2]
   exact hQ
 ·rw [ZDy fun h=>e1 (by rw [h])] at hQ
  simp(disch:=omega)[e1]
  exact hQ
def ZMb (H:Has S) (R:HM S) {l m:List Re} (hl:Ok Re.ok l) (hm:Ok Re.ok m) (hQ:Q [pb (dq (l=m))] []):Gives S ZHD [.one (.p (.sl 10 (l.map Re.row))),.one (.p (.sl 10 (m.map Re.row)))] [] Q:=by
 have g1:=hl.1
 have g2:=hm.1
 have e1:(l.map Re.row).length=l.length:=Yh _
 have e2:(m.map Re.row).length=m.length:=Yh _
 refine .code R.zaEqReqs rfl ?_
 simp(disch:=omega)[ZIx]
 by_cases hlen:l.length=m.length
 ·simp(disch:=omega)[hlen]
  refine Lp.rule (fun (j:Nat)=>[(0,.a (.one (.p (.sl 10 (l.map Re.row))))),(1,.a (.one (.p (.sl 10 (m.map Re.row))))),(5,.a (pi j)),(9999,.objs [])]) (fun j=>j<=l.length/\l.take j=m.take j) (fun j=>l.length-j) (a₀:=0) Zs ⟨Yd _,by simp⟩ ?_
  rintro j ⟨k1,k2⟩
  by_cases hj:j<l.length
  ·have hjm:j<m.length:=by omega
   have r1:=ZHG (f:=Re.row) (l:=l) (j:=j) Zo
   have r2:=ZHG (f:=Re.row) (l:=m) (j:=j) Zo
   simp(disch:=omega)[r1,r2]
   refine ZMx H R (hl.get hj) (hm.get hjm) ?_
   by_cases he:l[j]=m[j]
   ·rw [ZDz he]
    simp(disch:=omega)
    exact RdN.mk (j+1) Zs ⟨hj,ZIY k2 hj hjm he⟩ Zo
   ·rw [ZDy he]
    simp(disch:=omega)
    rw [ZDy (ZL0 hj hjm he)] at hQ
    exact hQ
  ·simp(disch:=omega)
   rw [ZDz (ZJC k2 Zo Zo)] at hQ
   exact hQ
 ·simp(disch:=omega)[hlen]
  rw [ZDy fun h=>hlen (by rw [h])] at hQ
  exact hQ
def ZMY (H:Has S) {l:List Ty} (hl:Ok Ty.fw l) (hQ:Q [pb true] []):Gives S ZdD [.one (.p (.sl 4 (Ty.encs l))),.one (.p (.sl 4 (Ty.encs l)))] [] Q:=
 ZMD H (n:=Ty.szs l+1) (ZJE H _) (Yz _) hl hl (by rw [ZDz rfl];exact hQ)
def ZMj (H:Has S) (R:HM S) {l:List Pa} (hl:Ok Pa.ok l) (hQ:Q [pb true] []):Gives S ZHx [.one (.p (.sl 6 (l.map Pa.row))),.one (.p (.sl 6 (l.map Pa.row)))] [] Q:=by
 have a1:=hl.1
 have b1:(l.map Pa.row).length=l.length:=Yh _
 refine .code R.zaEqParams rfl ?_
 simp(disch:=omega)[ZHN]
 refine Lp.rule (fun (j:Nat)=>[(0,.a (.one (.p (.sl 6 (l.map Pa.row))))),(1,.a (.one (.p (.sl 6 (l.map Pa.row))))),(5,.a (pi j)),(9999,.objs [])]) (fun j=>j<=l.length) (fun j=>l.length-j) (a₀:=0) Zs (Yd _) ?_
 intro j k1
 by_cases hj:j<l.length
 ·have r1:=ZHG (f:=Pa.row) (l:=l) (j:=j) Zo
  have hq:=hl.get hj
  simp(disch:=omega)[r1]
  refine ZLv H hq hq ?_
  rw [ZDz rfl]
  simp(disch:=omega)
  exact RdN.mk (j+1) Zs hj Zo
 ·simp(disch:=omega)
  exact hQ
def ZMC (H:Has S) (R:HM S) {l:List Fi} (hl:Ok Fi.ok l) (hQ:Q [pb true] []):Gives S ZHw [.one (.p (.sl 6 (l.map Fi.row))),.one (.p (.sl 6 (l.map Fi.row)))] [] Q:=by
 have a1:=hl.1
 have b1:(l.map Fi.row).length=l.length:=Yh _
 refine .code R.zaEqFields rfl ?_
 simp(disch:=omega)[ZHT]
 refine Lp.rule (fun (j:Nat)=>[(0,.a (.one (.p (.sl 6 (l.map Fi.row))))),(1,.a (.one (.p (.sl 6 (l.map Fi.row))))),(5,.a (pi j)),(9999,.objs [])]) (fun j=>j<=l.length) (fun j=>l.length-j) (a₀:=0) Zs (Yd _) ?_
 intro j k1
 by_cases hj:j<l.length
 ·have r1:=ZHG (f:=Fi.row) (l:=l) (j:=j) Zo
  have hq:=hl.get hj
  simp(disch:=omega)[r1]
  refine ZLv H hq hq ?_
  rw [ZDz rfl]
  simp(disch:=omega)
  exact RdN.mk (j+1) Zs hj Zo
 ·simp(disch:=omega)
  exact hQ
def ZMu (H:Has S) (R:HM S) {l:List Ca} (hl:Ok Ca.ok l) (hQ:Q [pb true] []):Gives S ZHI [.one (.p (.sl 3 (l.map Ca.row))),.one (.p (.sl 3 (l.map Ca.row)))] [] Q:=by
 have a1:=hl.1
 have b1:(l.map Ca.row).length=l.length:=Yh _
 refine .code R.zaEqCases rfl ?_
 simp(disch:=omega)[ZIa]
 refine Lp.rule (fun (j:Nat)=>[(0,.a (.one (.p (.sl 3 (l.map Ca.row))))),(1,.a (.one (.p (.sl 3 (l.map Ca.row))))),(5,.a (pi j)),(9999,.objs [])]) (fun j=>j<=l.length) (fun j=>l.length-j) (a₀:=0) Zs (Yd _) ?_
 intro j k1
 by_cases hj:j<l.length
 ·have r1:=ZHG (f:=Ca.row) (l:=l) (j:=j) Zo
  have hq:=hl.get hj
  simp(disch:=omega)[r1]
  refine ZMY H hq ?_
  simp(disch:=omega)
  exact RdN.mk (j+1) Zs hj Zo
 ·simp(disch:=omega)
  exact hQ
def ZNc (H:Has S) (R:HM S) {x:Me} (hx:x.ok) (hQ:Q [pb true] []):Gives S ZHt [.agg (x.row.map .p),.agg (x.row.map .p)] [] Q:=by
 obtain ⟨h1,h2,h3⟩:=hx
 refine .code R.zaEqMethod rfl ?_
 simp(disch:=omega)[ZHR]
 refine ZMj H R h1 ?_
 simp(disch:=omega)
 refine ZLv H h2 h2 ?_
 rw [ZDz rfl]
 simp(disch:=omega)
 refine ZLv H h3 h3 ?_
 rw [ZDz rfl]
 simp(disch:=omega)
 exact hQ
def ZM5 (H:Has S) (R:HM S) {x:Co} (hx:x.ok) (hQ:Q [pb true] []):Gives S ZHW [.agg (x.row.map .p),.agg (x.row.map .p)] [] Q:=by
 obtain ⟨h1,h2,h3,h4,h5⟩:=hx
 refine .code R.zaEqConf rfl ?_
 simp(disch:=omega)[ZIA]
 refine ZLv H h1 h1 ?_
 rw [ZDz rfl]
 simp(disch:=omega)
 refine ZIX R h2 h2 ?_
 rw [ZDz rfl]
 simp(disch:=omega)
 refine ZMb H R h3 h3 ?_
 rw [ZDz rfl]
 simp(disch:=omega)
 refine ZMY H h4 ?_
 simp(disch:=omega)
 refine ZIX R h5 h5 ?_
 rw [ZDz rfl]
 simp(disch:=omega)
 exact hQ
def ZM9 (H:Has S) (R:HM S) {x:Pr} (hx:x.ok) (hQ:Q [pb true] []):Gives S ZHh [.agg (x.row.map .p),.agg (x.row.map .p)] [] Q:=by
 obtain ⟨h1,h2⟩:=hx
 have a1:=h1.1
 have a2:=h2.1
 have b1:(x.as.map As.row).length=x.as.length:=Yh _
 have b2:(x.ms.map Me.row).length=x.ms.length:=Yh _
 refine .code R.zaEqProtocol rfl ?_
 simp(disch:=omega)[ZHy]
 refine Lp.rule (fun (j:Nat)=>[(2,.a (.one (.ref ⟨true,10002,0⟩))),(3,.a (.one (.ref ⟨true,10003,0⟩))),(5,.a (pi j)),(9999,.objs []),(10002,.a (.agg (x.row.map .p))),(10003,.a (.agg (x.row.map .p)))]) (fun j=>j<=x.as.length) (fun j=>x.as.length-j) (a₀:=0) Zs (Yd _) ?_
 intro j k1
 by_cases hj:j<x.as.length
 ·have r1:=ZHG (f:=As.row) (l:=x.as) (j:=j) Zo
  have hq:=h1.get hj
  simp(disch:=omega)[r1]
  refine ZIX R hq hq ?_
  rw [ZDz rfl]
  simp(disch:=omega)
  exact RdN.mk (j+1) Zs hj Zo
 simp(disch:=omega)
 refine Lp.rule (fun (j:Nat)=>[(2,.a (.one (.ref ⟨true,10002,0⟩))),(3,.a (.one (.ref ⟨true,10003,0⟩))),(6,.a (pi j)),(9999,.objs []),(10002,.a (.agg (x.row.map .p))),(10003,.a (.agg (x.row.map .p)))]) (fun j=>j<=x.ms.length) (fun j=>x.ms.length-j) (a₀:=0) Zs (Yd _) ?_
 clear hj k1 j
 intro j k1
 by_cases hj:j<x.ms.length
 ·have r1:=ZHG (f:=Me.row) (l:=x.ms) (j:=j) Zo
  simp(disch:=omega)[r1]
  refine ZNc H R (h2.get hj) ?_
  simp(disch:=omega)
  exact RdN.mk (j+1) Zs hj Zo
 ·simp(disch:=omega)
  exact hQ
def ZK5 (H:Has S) {n:Nat} (ih: ∀(x:Nd) (Q:List A->List (List C)->Prop),x.sz<n->x.fw->Q [pb true] []->Gives S ZgL [.agg (x.row.map .p),.agg (x.row.map .p),pb true] [] Q) {l:List Nd} (hs:Nd.szs l<n) (hl:Ok Nd.fw l) (hQ:Q [pb true] []):
  Gives S Zhb [.one (.p (.sl 10 (Nd.encs l))),.one (.p (.sl 10 (Nd.encs l))),pb true] [] Q:=by
 have a1:=hl.1
 have b1:(l.map Nd.row).length=l.length:=Yh _
 rw [Nd.encs_rows]
 refine .code H.ZuP rfl ?_
 simp(disch:=omega)[ZjJ]
 refine Lp.rule (fun (j:Nat)=>[(0,.a (.one (.p (.sl 10 (l.map Nd.row))))),(1,.a (.one (.p (.sl 10 (l.map Nd.row))))),(2,.a (pb true)),(7,.a (pi j)),(9999,.objs [])]) (fun j=>j<=l.length) (fun j=>l.length-j) (a₀:=0) Zs (Yd _) ?_
 intro j k1
 by_cases hj:j<l.length
 ·have r1:=ZHG (f:=Nd.row) (l:=l) (j:=j) Zo
  simp(disch:=omega)[r1]
  refine ih _ _ (by have:=Nd.szs_mem _ (Yl hj);omega) (hl.get hj) ?_
  simp(disch:=omega)
  exact RdN.mk (j+1) Zs hj Zo
 ·simp(disch:=omega)
  exact hQ
def ZI8 (H:Has S): ∀(n:Nat) (x:Nd) (Q:List A->List (List C)->Prop),x.sz<n->x.fw->Q [pb true] []->Gives S ZgL [.agg (x.row.map .p),.agg (x.row.map .p),pb true] [] Q
 | 0,_,_,h,_,_=>absurd h (YH _)
 | n+1,x,Q,hs,hx,hQ=>by
   obtain ⟨h1,h2,h3⟩:=hx.inv
   have h4:=Nd.sz_l (t:=x)
   refine .code H.Zw7 rfl ?_
   simp(disch:=omega)[ZiB]
   refine ZLv H h1 h1 ?_
   rw [ZDz rfl]
   simp(disch:=omega)
   refine ZMY H h2 ?_
   simp(disch:=omega)
   refine ZK5 H (ZI8 H n) Zo h3 ?_
   simp(disch:=omega)
   exact hQ
def ZM7 (H:Has S) (R:HM S) {x:No} (hx:x.ok) (hQ:Q [pb true] []):Gives S ZHn [.agg (x.row.map .p),.agg (x.row.map .p),pb true] [] Q:=by
 obtain ⟨h1,h2,h3,h4⟩:=hx
 refine .code R.zaEqNominal rfl ?_
 simp(disch:=omega)[ZHz]
 refine ZIX R h1 h1 ?_
 rw [ZDz rfl]
 simp(disch:=omega)
 refine ZMC H R h2 ?_
 simp(disch:=omega)
 refine ZMu H R h3 ?_
 simp(disch:=omega)
 refine ZI8 H _ x.d _ (Yz _) h4 ?_
 simp(disch:=omega)
 exact hQ
structure Mo where
 ns:List No
 ps:List Pr
 cs:List Co
 fs:List (List P)
abbrev Mo.cs' (m:Mo):List C:=[.p (.sl 17 (m.ns.map No.row)),.p (.sl 3 (m.ps.map Pr.row)),.p (.sl 9 (m.cs.map Co.row)),.p (.sl 22 m.fs)]
structure Mo.ok (m:Mo):Prop where
 n:Ok No.ok m.ns
 p:Ok Pr.ok m.ps
 c:Ok Co.ok m.cs
def ZKy (H:Has S) (R:HM S) {m:Mo} (hm:m.ok) (hQ:Q [pb true] []):Gives S ZHs [.agg m.cs',.agg m.cs',pb true] [] Q:=by
 have a1:=hm.n.1
 have a2:=hm.p.1
 have a3:=hm.c.1
 have b1:(m.ns.map No.row).length=m.ns.length:=Yh _
 have b2:(m.ps.map Pr.row).length=m.ps.length:=Yh _
 have b3:(m.cs.map Co.row).length=m.cs.length:=Yh _
 refine .code R.zaEqTables rfl ?_
 simp(disch:=omega)[ZHP]
 refine Lp.rule (fun (j:Nat)=>[(2,.a (pb true)),(3,.a (.one (.ref ⟨true,10003,0⟩))),(4,.a (.one (.ref ⟨true,10004,0⟩))),(7,.a (pi j)),(9999,.objs []),(10003,.a (.agg m.cs')),(10004,.a (.agg m.cs'))]) (fun j=>j<=m.ns.length) (fun j=>m.ns.length-j) (a₀:=0) Zs (Yd _) ?_
 intro j k1
 by_cases hj:j<m.ns.length
 ·have r1:=ZHG (f:=No.row) (l:=m.ns) (j:=j) Zo
  simp(disch:=omega)[r1]
  refine ZM7 H R (hm.n.get hj) ?_
  simp(disch:=omega)
  exact RdN.mk (j+1) Zs hj Zo
 simp(disch:=omega)
 refine Lp.rule (fun (j:Nat)=>[(3,.a (.one (.ref ⟨true,10003,0⟩))),(4,.a (.one (.ref ⟨true,10004,0⟩))),(8,.a (pi j)),(9999,.objs []),(10003,.a (.agg m.cs')),(10004,.a (.agg m.cs'))]) (fun j=>j<=m.ps.length) (fun j=>m.ps.length-j) (a₀:=0) Zs (Yd _) ?_
 clear hj k1 j
 intro j k1
 by_cases hj:j<m.ps.length
 ·have r1:=ZHG (f:=Pr.row) (l:=m.ps) (j:=j) Zo
  simp(disch:=omega)[r1]
  refine ZM9 H R (hm.p.get hj) ?_
  simp(disch:=omega)
  exact RdN.mk (j+1) Zs hj Zo
 simp(disch:=omega)
 refine Lp.rule (fun (j:Nat)=>[(3,.a (.one (.ref ⟨true,10003,0⟩))),(4,.a (.one (.ref ⟨true,10004,0⟩))),(9,.a (pi j)),(9999,.objs []),(10003,.a (.agg m.cs')),(10004,.a (.agg m.cs'))]) (fun j=>j<=m.cs.length) (fun j=>m.cs.length-j) (a₀:=0) Zs (Yd _) ?_
 clear hj k1 j
 intro j k1
 by_cases hj:j<m.cs.length
 ·have r1:=ZHG (f:=Co.row) (l:=m.cs) (j:=j) Zo
  simp(disch:=omega)[r1]
  refine ZM5 H R (hm.c.get hj) ?_
  simp(disch:=omega)
  exact RdN.mk (j+1) Zs hj Zo
 ·simp(disch:=omega)
  exact hQ
end Go.Am.Fe
end
section
namespace Go.Am.Fe
theorem RowsOf.lift {α:Type} {R:List P->Prop} {row:α->List P} {p:α->Prop} {l:List (List P)} (h:RowsOf R l) (hR: ∀r,R r-> ∃x,row x=r/\p x): ∃L:List α,L.map row=l/\Ok p L:=by
 obtain ⟨h1,h2⟩:=h
 suffices∃L:List α,L.map row=l/\ ∀x∈L,p x by
   obtain ⟨L,e,hp⟩:=this
   exact ⟨L,e,by rw [<-e,Yh] at h1;omega,hp⟩
 clear h1
 induction l with
 | nil=>exact ⟨[],rfl,fun _ h=>nomatch h⟩
 | cons r l ih=>
   obtain ⟨L,e,hp⟩:=ih fun x hx=>h2 x (Yk _ hx)
   obtain ⟨x,ex,hx⟩:=hR r (h2 r Yr)
   exact ⟨x::L,by simp [e,ex],fun y hy=>(List.mem_cons.1 hy).elim (fun h=>h ▸ hx) (hp y)⟩
def FTy.lift {m:Nat} {k n:Int} {s:List Nat} {a:List (List P)} (h:FTy m [.int .i64 k,.str s,.int .i64 n,.sl 4 a]): ∃t:Ty,t.fw/\t.k=k/\t.s=s/\t.n=n/\Ty.encs t.a=a:=by
 obtain ⟨⟨k',s',n',a'⟩,e,h1,_⟩:=h
 simp only [Ty.enc,Yf,P.int.injEq,P.str.injEq,P.sl.injEq,true_and,and_true] at e
 obtain ⟨rfl,rfl,rfl,rfl⟩:=e
 exact ⟨_,Ty.fit_fw _ h1,rfl,rfl,rfl,rfl⟩
def FTys.lift {m:Nat} {l:List (List P)} (h:FTys m l): ∃L:List Ty,Ty.encs L=l/\Ok Ty.fw L:=by
 obtain ⟨L,e,h1,h2,_⟩:=h
 exact ⟨L,e,Yy h1 Zd,Ty.fws_mem (Ty.fits_fw _ h2)⟩
def FNd.lift {mm:Nat} {o n k m z:Int} {s u:List Nat} {a t l:List (List P)} (h:FNd mm [.int .i64 o,.str s,.int .i64 n,.int .i64 k,.str u,.int .i64 m,.sl 4 a,.sl 4 t,.sl 10 l,.int .i64 z]):
  ∃x:Nd,x.fw/\x.row=[.int .i64 o,.str s,.int .i64 n,.int .i64 k,.str u,.int .i64 m,.sl 4 a,.sl 4 t,.sl 10 l,.int .i64 z]:=by
 obtain ⟨x,e,h1,_⟩:=h
 exact ⟨x,Nd.fit_fw _ h1,by rw [<-e,Nd.enc_row]⟩
def PaR.lift (r:List P) (h:PaR r): ∃x:Pa,x.row=r/\x.ok:=by
 obtain ⟨m,s,o,k,n,u,a,rfl,h1,h2⟩:=h
 obtain ⟨t,ht,rfl,rfl,rfl,rfl⟩:=h2.lift
 exact ⟨⟨s,o,t⟩,rfl,ht⟩
def MeR.lift (r:List P) (h:MeR r): ∃x:Me,x.row=r/\x.ok:=by
 obtain ⟨m1,m2,s,ps,k1,n1,k2,n2,s1,s2,a1,a2,rfl,h1,h2,h3,h4⟩:=h
 obtain ⟨L,rfl,hL⟩:=h2.lift PaR.lift
 obtain ⟨t,ht,rfl,rfl,rfl,rfl⟩:=h3.lift
 obtain ⟨v,hv,rfl,rfl,rfl,rfl⟩:=h4.lift
 exact ⟨⟨s,L,t,v⟩,rfl,hL,ht,hv⟩
def AsR.lift (r:List P) (h:AsR r): ∃x:As,x.row=r/\x.ok:=by
 obtain ⟨s,bs,rfl,h1,h2⟩:=h
 exact ⟨⟨s,bs⟩,rfl,Yy h2.1 Zd⟩
def PrR.lift (r:List P) (h:PrR r): ∃x:Pr,x.row=r/\x.ok:=by
 obtain ⟨s,as,ms,rfl,h1,h2,h3⟩:=h
 obtain ⟨L,rfl,hL⟩:=h2.lift AsR.lift
 obtain ⟨M,rfl,hM⟩:=h3.lift MeR.lift
 exact ⟨⟨s,L,M⟩,rfl,hL,hM⟩
def FiR.lift (r:List P) (h:FiR r): ∃x:Fi,x.row=r/\x.ok:=by
 obtain ⟨m,s,k,n,u,a,b,rfl,h1,h2⟩:=h
 obtain ⟨t,ht,rfl,rfl,rfl,rfl⟩:=h2.lift
 exact ⟨⟨s,t,b⟩,rfl,ht⟩
def CaR.lift (r:List P) (h:CaR r): ∃x:Ca,x.row=r/\x.ok:=by
 obtain ⟨m,s,ts,b,rfl,h1,h2⟩:=h
 obtain ⟨L,rfl,hL⟩:=h2.lift
 exact ⟨⟨s,L,b⟩,rfl,hL⟩
def NoR.lift (r:List P) (h:NoR r): ∃x:No,x.row=r/\x.ok:=by
 obtain ⟨mm,s,kd,gs,b1,b2,fs,cs,o,n,k,m,z,s1,u,a,t,l,rfl,h1,h2,h3,h4,h5,_⟩:=h
 obtain ⟨L,rfl,hL⟩:=h3.lift FiR.lift
 obtain ⟨M,rfl,hM⟩:=h4.lift CaR.lift
 obtain ⟨x,hx,ex⟩:=h5.1.lift
 refine ⟨⟨s,kd,gs,b1,b2,L,M,x⟩,?_,Yy h2.1 Zd,hL,hM,hx⟩
 simp only [Yf,P.int.injEq,P.str.injEq,P.sl.injEq,true_and,and_true] at ex⊢
 exact ex
def ReR.lift (r:List P) (h:ReR r): ∃x:Re,x.row=r/\x.ok:=by
 obtain ⟨m1,m2,o,s,k1,n1,k2,n2,s1,s2,a1,a2,rfl,h1,h3,h4⟩:=h
 obtain ⟨t,ht,rfl,rfl,rfl,rfl⟩:=h3.lift
 obtain ⟨v,hv,rfl,rfl,rfl,rfl⟩:=h4.lift
 exact ⟨⟨o,t,s,v⟩,rfl,ht,hv⟩
def CoR.lift (r:List P) (h:CoR r): ∃x:Co,x.row=r/\x.ok:=by
 obtain ⟨m1,m2,s,k,n,u,a,gs,qs,ts,fs,rfl,h1,h2,h3,h4,h5,h6,_⟩:=h
 obtain ⟨t,ht,rfl,rfl,rfl,rfl⟩:=h2.lift
 obtain ⟨L,rfl,hL⟩:=h4.lift ReR.lift
 obtain ⟨M,rfl,hM⟩:=h5.lift
 exact ⟨⟨s,t,gs,L,M,fs⟩,rfl,ht,Yy h3.1 Zd,hL,hM,Yy h6.1 Zd⟩
def ZFr {noms pro cfs fns:List (List P)} (h1:RowsOf NoR noms) (h2:RowsOf PrR pro) (h3:RowsOf CoR cfs): ∃m:Mo,m.ok/\m.ns.map No.row=noms/\m.ps.map Pr.row=pro/\m.cs.map Co.row=cfs/\m.fs=fns:=by
 obtain ⟨a,ea,ha⟩:=h1.lift NoR.lift
 obtain ⟨b,eb,hb⟩:=h2.lift PrR.lift
 obtain ⟨c,ec,hc⟩:=h3.lift CoR.lift
 exact ⟨⟨a,b,c,fns⟩,⟨ha,hb,hc⟩,ea,eb,ec,rfl⟩
end Go.Am.Fe
end
section
namespace Go.Am.Fe
variable {S:Nat->Option Fn} {Q:List A->List (List C)->Prop}
attribute [local simp] ZbO if_pos if_neg decide_eq_true decide_eq_false Yi Yj ZgF Ops.callv List.idxOf?_cons
abbrev Mo.pc (m:Mo) (b:List (List P)):List C:=[.p (.sl 17 (m.ns.map No.row)),.p (.sl 3 (m.ps.map Pr.row)),.p (.sl 9 (m.cs.map Co.row)),.p (.sl 14 b)]
def ZJa (M:HM S) {m:Mo} {b:List (List P)} (hQ:Q [.agg ({m with fs:=[]}:Mo).cs'] []):Gives S ZH5 [.agg (m.pc b)] [] Q:=by
 refine .code M.zmModule rfl ?_
 simp(disch:=omega)[ZIB]
 exact hQ
def ZKC (M:HM S) {m:Mo} (hQ:Q [.agg (m.pc [])] []):Gives S ZH3 [.agg m.cs'] [] Q:=by
 refine .code M.zmTables rfl ?_
 simp(disch:=omega)[ZIw]
 exact hQ
def ZIT (M:HM S) {m:Mo} (hm:m.ok) (h1:m.ns.length<=2147483648) (h2:m.ps.length<=2147483648) (h3:m.cs.length<=2147483648) (hQ:Q [.agg (m.pc [])] []):Gives S ZHi [.agg m.cs'] [] Q:=by
 refine .code M.middleTables rfl ?_
 simp(disch:=omega)[ZHq]
 refine M.cloN (by simpa using h1) ?_
 simp(disch:=omega)
 refine M.cloP (by simpa using h2) ?_
 simp(disch:=omega)
 refine M.cloC (by simpa using h3) ?_
 simp(disch:=omega)
 exact hQ
def Mo.ok.fs {m:Mo} (h:m.ok) {f:List (List P)}:({m with fs:=f}:Mo).ok:=⟨h.n,h.p,h.c⟩
def ZLS (H:Has S) (M:HM S) {m:Mo} (hm:m.ok) (hQ:Q [pb true] []):Gives S ZIQ [.agg (m.pc []),.agg (m.pc [])] [] Q:=by
 refine .code M.zmSame rfl ?_
 simp(disch:=omega)[ZJt]
 refine ZJa M ?_
 simp(disch:=omega)
 refine ZJa M ?_
 simp(disch:=omega)
 refine ZKy H M (m:={m with fs:=[]}) hm.fs ?_
 simp(disch:=omega)
 refine Lp.rule (fun (j:Nat)=>[(2,.a (.one (.ref ⟨true,10002,0⟩))),(3,.a (.one (.ref ⟨true,10003,0⟩))),(5,.a (pi j)),(9999,.objs []),(10002,.a (.agg (m.pc []))),(10003,.a (.agg (m.pc [])))]) (fun j=>j<=0) (fun j=>0-j) (a₀:=0) Zs (Yd _) ?_
 intro j k1
 obtain rfl:j=0:=by omega
 simp(disch:=omega)
 exact hQ
def ZHZ (H:Has S) (M:HM S) (HL:S ZG5=some (.code ZHa))
  (HA: ∀Q:List A->List (List C)->Prop,Q [pb true] []->Gives S ZHF [] [] Q) {src:List Nat}
  (HT: ∀Q:List A->List (List C)->Prop,(∀(m:Mo) (ok:Bool),m.ok->m.ns.length<=100000->m.ps.length<=100000->m.cs.length<=100000->Q [.agg m.cs',pb ok] [])->Gives S Zgf [ps src,pi 4000] [] Q)
  (hQ:Q [pb true] []):Gives S ZG5 [ps src] [] Q:=by
 refine .code HL rfl ?_
 simp(disch:=omega)[ZHa]
 refine HT _ fun m ok hm h1 h2 h3=>?_
 cases ok
 ·simp(disch:=omega)
  refine HA _ ?_
  simp(disch:=omega)
  exact hQ
 simp(disch:=omega)
 refine ZIT M hm Zo Zo Zo ?_
 simp(disch:=omega)
 refine ZKC M ?_
 simp(disch:=omega)
 refine ZLS H M hm ?_
 simp(disch:=omega)
 refine HA _ ?_
 simp(disch:=omega)
 exact hQ
end Go.Am.Fe
end
