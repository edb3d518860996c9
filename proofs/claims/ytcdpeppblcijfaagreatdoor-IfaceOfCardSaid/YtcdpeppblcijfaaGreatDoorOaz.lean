/- Part. -/
import Derived.Test.YtcdpeppblcijfaaGreatDoorOay
import Derived.Test.YtcdpeppblcijfaaGreatDoorOal
set_option maxRecDepth 999999
set_option maxHeartbeats 0
set_option linter.all false
section
namespace Go.Am.Fe
variable {S:SF} {Q:QF}
attribute [local simp] ZbO if_pos if_neg decide_eq_true decide_eq_false Yi Yj ZgF Ops.callv List.idxOf?_cons
def ZJH {α:Type} {a b:List α} {j:Nat} (h:a.take j=b.take j) (ha:j<a.length) (hb:j<b.length) (he:a[j]=b[j]):a.take (j+1)=b.take (j+1):=by
 rw [Ym,Ym,h,Ya ha,Ya hb,he]
def ZJZ {α:Type} {a b:List α} {j:Nat} (h:a.take j=b.take j) (ha:a.length<=j) (hb:b.length<=j):a=b:=by
 rwa [Yg ha,Yg hb] at h
def ZKY {α:Type} {a b:List α} {j:Nat} (ha:j<a.length) (hb:j<b.length) (h:a[j]≠b[j]):a≠b:=fun e=>h (by subst e;rfl)
def ZKJ {l:List LN} {j:Nat} (h:j<(strs l).length):(strs l)[j]=[.str (l[j]'(by simpa [strs] using h))]:=by simp [strs]
def EqT (S:SF) (n:Nat):Prop:= ∀(t u:Ty) (Q:QF),t.sz<n->t.fw->u.fw->Q [pb (dq (t=u))] []->Gives S ZbG [.agg t.cs,.agg u.cs] [] Q
def Ty.fw_args {t:Ty} (h:t.fw):Ok Ty.fw t.a:=⟨Ty.fw_len h,fun x hx=>by cases t;exact Ty.fws_mem h.2.2 x hx⟩
def ZKU (H:Has S) {n:Nat} (ih:EqT S n) {a b:List Ty} (hm:Ty.szs a<n) (h1:Ok Ty.fw a) (h2:Ok Ty.fw b) (hQ:Q [pb (dq (a=b))] []):Gives S ZdD [.one (.l 4 (Ty.encs a)),.one (.l 4 (Ty.encs b))] [] Q:=by
 have g1:=h1.1
 have g2:=h2.1
 have e1:(Ty.encs a).length=a.length:=Ty.encs_length
 have e2:(Ty.encs b).length=b.length:=Ty.encs_length
 refine .code H.ZqJ rfl ?_
 simp(disch:=omega)[Zhc]
 by_cases hl:a.length=b.length
 ·simp(disch:=omega)[hl]
  refine Lp.rule (fun (j:Nat)=>[(0,.a (.one (.l 4 (Ty.encs a)))),(1,.a (.one (.l 4 (Ty.encs b)))),(5,.a (pi j)),o9]) (fun j=>j<=a.length/\a.take j=b.take j) (fun j=>a.length-j) (a₀:=0) Zs ⟨Yd _,by simp⟩ ?_
  rintro j ⟨k1,k2⟩
  by_cases hj:j<a.length
  ·have hjb:j<b.length:=by omega
   have r1:=Ty.encs_get (l:=a) (j:=j) Zo
   have r2:=Ty.encs_get (l:=b) (j:=j) Zo
   simp(disch:=omega)[r1,r2]
   refine ih _ _ _ (by have:=Ty.szs_get hj;omega) (h1.2 _ (Yl hj)) (h2.2 _ (Yl hjb)) ?_
   by_cases he:a[j]=b[j]
   ·rw [ZDz he]
    simp(disch:=omega)
    exact RdN.mk (j+1) Zs ⟨hj,ZJH k2 hj hjb he⟩ Zo
   ·rw [ZDy he]
    simp(disch:=omega)
    rw [ZDy (ZKY hj hjb he)] at hQ
    exact hQ
  ·simp(disch:=omega)
   rw [ZDz (ZJZ k2 Zo Zo)] at hQ
   exact hQ
 ·simp(disch:=omega)[hl]
  rw [ZDy fun h=>hl (by rw [h])] at hQ
  exact hQ
def ZJG (H:Has S): ∀n,EqT S n
 | 0=>fun _ _ _ h=>absurd h (YH _)
 | n+1=>by
   intro t u Q hm h1 h2 hQ
   have ih:=ZJG H n
   refine .code H.Ztw rfl ?_
   simp(disch:=omega)[Ziv]
   by_cases e1:t.k=u.k
   · by_cases e2:t.s=u.s
     · by_cases e3:t.n=u.n
       · simp(disch:=omega)[e1,e2,e3]
         refine ZKU H ih (by cases t;simp [Ty.sz,Ty.a] at hm⊢;omega) (Ty.fw_args h1) (Ty.fw_args h2) ?_
         simp(disch:=omega)
         rwa [show (dq (t.a=u.a))=dq (t=u) from by
           by_cases e4:t.a=u.a
           · rw [ZDz e4,ZDz (Ty.ext e1 e2 e3 e4)]
           · rw [ZDy e4,ZDy fun h=>e4 (by rw [h])]]
       · rw [ZDy fun h=>e3 (by rw [h])] at hQ
         simp(disch:=omega)[e1,e2,e3]
         exact hQ
     · rw [ZDy fun h=>e2 (by rw [h])] at hQ
       simp(disch:=omega)[e1,e2]
       exact hQ
   · rw [ZDy fun h=>e1 (by rw [h])] at hQ
     simp(disch:=omega)[e1]
     exact hQ
def ZKv (H:Has S) {t u:Ty} (h1:t.fw) (h2:u.fw) (hQ:Q [pb (dq (t=u))] []):Gives S ZbG [.agg t.cs,.agg u.cs] [] Q:=ZJG H _ t u Q (Yz _) h1 h2 hQ
def ZJp (R:HR S) {a b:List LN} (h1:a.length<=100000) (h2:b.length<=100000) (hQ:Q [pb (dq (a=b))] []):Gives S ZHh [.one (.l 1 (strs a)),.one (.l 1 (strs b))] [] Q:=by
 have e1:(strs a).length=a.length:=by simp [strs]
 have e2:(strs b).length=b.length:=by simp [strs]
 refine .code R.zaEqStrings rfl ?_
 simp(disch:=omega)[ZID]
 by_cases hl:a.length=b.length
 ·simp(disch:=omega)[hl]
  refine Lp.rule (fun (j:Nat)=>[(0,.a (.one (.l 1 (strs a)))),(1,.a (.one (.l 1 (strs b)))),(5,.a (pi j)),o9]) (fun j=>j<=a.length/\a.take j=b.take j) (fun j=>a.length-j) (a₀:=0) Zs ⟨Yd _,by simp⟩ ?_
  rintro j ⟨k1,k2⟩
  by_cases hj:j<a.length
  ·have hjb:j<b.length:=by omega
   have r1:=ZKJ (l:=a) (j:=j) Zo
   have r2:=ZKJ (l:=b) (j:=j) Zo
   by_cases he:a[j]=b[j]
   ·simp(disch:=omega)[r1,r2,he]
    exact RdN.mk (j+1) Zs ⟨hj,ZJH k2 hj hjb he⟩ Zo
   ·rw [ZDy (ZKY hj hjb he)] at hQ
    simp(disch:=omega)[r1,r2,he]
    exact hQ
  ·simp(disch:=omega)
   rw [ZDz (ZJZ k2 Zo Zo)] at hQ
   exact hQ
 ·simp(disch:=omega)[hl]
  rw [ZDy fun h=>hl (by rw [h])] at hQ
  exact hQ
def ZLo (H:Has S) (R:HR S) {x y:Re} (hx:x.ok) (hy:y.ok) (hQ:Q [pb (dq (x=y))] []):Gives S ZIY [.agg (x.row.map .p),.agg (y.row.map .p)] [] Q:=by
 refine .code R.zaEqReq rfl ?_
 simp(disch:=omega)[ZJD]
 by_cases e1:x.k=y.k
 ·by_cases e2:x.p=y.p
  ·simp(disch:=omega)[e1,e2]
   refine ZKv H hx.2.1 hy.2.1 ?_
   by_cases e3:x.t=y.t
   ·rw [ZDz e3]
    simp(disch:=omega)
    refine ZKv H hx.2.2 hy.2.2 ?_
    simp(disch:=omega)
    rwa [show dq (x.o=y.o)=dq (x=y) from by
     by_cases e4:x.o=y.o
     ·rw [ZDz e4,ZDz (by cases x;cases y;simp_all)]
     ·rw [ZDy e4,ZDy fun h=>e4 (by rw [h])]]
   ·rw [ZDy fun h=>e3 (by rw [h])] at hQ
    rw [ZDy e3]
    simp(disch:=omega)
    exact hQ
  ·rw [ZDy fun h=>e2 (by rw [h])] at hQ
   simp(disch:=omega)[e1,e2]
   exact hQ
 ·rw [ZDy fun h=>e1 (by rw [h])] at hQ
  simp(disch:=omega)[e1]
  exact hQ
def ZH9 {α:Type} {f:α->List P} {l:List α} {j:Nat} (h:j<(l.map f).length):(l.map f)[j]=f (l[j]'(by simpa using h)):=List.getElem_map ..
end Go.Am.Fe
end
