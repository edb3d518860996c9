/- Part. -/
import Derived.Test.YtcdpeppblcijfaaGreatDoorEay
import Derived.Test.YtcdpeppblcijfaaGreatDoorEal
set_option maxRecDepth 999999
set_option maxHeartbeats 0
set_option linter.all false
section
namespace Go.Am.Fe
variable {S:SF} {Q:QF}
attribute [local simp] ZbO if_pos if_neg decide_eq_true decide_eq_false Yi Yj ZgF Ops.callv List.idxOf?_cons
def ZHh {α:Type} {a b:List α} {j:Nat} (h:a.take j=b.take j) (ha:j<a.length) (hb:j<b.length) (he:a[j]=b[j]):a.take (j+1)=b.take (j+1):=by
 rw [Ym,Ym,h,Ya ha,Ya hb,he]
def ZHu {α:Type} {a b:List α} {j:Nat} (h:a.take j=b.take j) (ha:a.length<=j) (hb:b.length<=j):a=b:=by
 rwa [Yg ha,Yg hb] at h
def ZH9 {α:Type} {a b:List α} {j:Nat} (ha:j<a.length) (hb:j<b.length) (h:a[j]≠b[j]):a≠b:=fun e=>h (by subst e;rfl)
def ZIs {l:List LN} {j:Nat} (h:j<(strs l).length):(strs l)[j]=[.str (l[j]'(by simpa [strs] using h))]:=by simp [strs]
def ZIG (H:Has S) {l:List LN} {s:LN} (hl:l.length<=20000000000) (hQ0:s∉l->Q [pi (-1)] []) (hQ1: ∀(j:Nat) (hj:j<l.length),l[j]=s->s∉l.take j->Q [pi j] []):Gives S Zct [.one (.l 1 (strs l)),ps s] [] Q:=by
 refine .code H.ZDa rfl ?_
 have e0:(strs l).length=l.length:=by simp [strs]
 simp(disch:=omega)[ZsT]
 refine Lp.rule (fun (j:Nat)=>[(0,.a (.one (.l 1 (strs l)))),(1,.a (ps s)),(5,.a (pi j)),o9]) (fun j=>j<=l.length/\s∉l.take j) (fun j=>l.length-j) (a₀:=0) Zs ⟨Yd _,by simp⟩ ?_
 rintro j ⟨k1,k2⟩
 by_cases hj:j<l.length
 ·by_cases hs:l[j]=s
  ·have hb:=ZIs (l:=l) (j:=j) Zo
   simp(disch:=omega)[hb,hs]
   exact hQ1 j hj hs k2
  ·have hb:=ZIs (l:=l) (j:=j) Zo
   simp(disch:=omega)[hb,hs]
   exact RdN.mk (j+1) Zs ⟨hj,fun h=>by
    rw [Ym,Ya hj,Ys] at h
    rcases h with h|h
    ·exact k2 h
    ·simp at h;exact hs h.symm⟩ Zo
 ·simp(disch:=omega)
  exact hQ0 (by rwa [Yg Zo] at k2)
def EqT (S:SF) (n:Nat):Prop:= ∀(t u:Ty) (Q:QF),t.sz<n->t.fw->u.fw->Q [pb (dq (t=u))] []->Gives S ZbG [.agg t.cs,.agg u.cs] [] Q
def Ty.fw_args {t:Ty} (h:t.fw):Ok Ty.fw t.a:=⟨Ty.fw_len h,fun x hx=>by cases t;exact Ty.fws_mem h.2.2 x hx⟩
def ZKk (H:Has S) {n:Nat} (ih:EqT S n) {a b:List Ty} (hm:Ty.szs a<n) (h1:Ok Ty.fw a) (h2:Ok Ty.fw b) (hQ:Q [pb (dq (a=b))] []):Gives S ZdD [.one (.l 4 (Ty.encs a)),.one (.l 4 (Ty.encs b))] [] Q:=by
 have g1:=h1.1
 have g2:=h2.1
 have e1:(Ty.encs a).length=a.length:=Ty.encs_length
 have e2:(Ty.encs b).length=b.length:=Ty.encs_length
 refine .code H.ZqJ rfl ?_
 simp(disch:=omega)[Zhc]
 by_cases hl:a.length=b.length
 ·simp(disch:=omega)[hl]
  refine Lp.rule (fun (j:Nat)=>[(0,.a (.one (.l 4 (Ty.encs a)))),(1,.a (.one (.l 4 (Ty.encs b)))),(5,.a (pi j)),o9]) (fun j=>j<=a.length/\a.take j=b.take j) (fun j=>a.length-j) (a₀:=0) Zs ⟨Yd _,by simp⟩ ?_
  rintro j ⟨k1,k2⟩
  by_cases hj:j<a.length
  ·have hjb:j<b.length:=by omega
   have r1:=Ty.encs_get (l:=a) (j:=j) Zo
   have r2:=Ty.encs_get (l:=b) (j:=j) Zo
   simp(disch:=omega)[r1,r2]
   refine ih _ _ _ (by have:=Ty.szs_get hj;omega) (h1.2 _ (Yl hj)) (h2.2 _ (Yl hjb)) ?_
   by_cases he:a[j]=b[j]
   ·rw [ZDz he]
    simp(disch:=omega)
    exact RdN.mk (j+1) Zs ⟨hj,ZHh k2 hj hjb he⟩ Zo
   ·rw [ZDy he]
    simp(disch:=omega)
    rw [ZDy (ZH9 hj hjb he)] at hQ
    exact hQ
  ·simp(disch:=omega)
   rw [ZDz (ZHu k2 Zo Zo)] at hQ
   exact hQ
 ·simp(disch:=omega)[hl]
  rw [ZDy fun h=>hl (by rw [h])] at hQ
  exact hQ
def ZI7 (H:Has S): ∀n,EqT S n
 | 0=>fun _ _ _ h=>absurd h (YH _)
 | n+1=>by
   intro t u Q hm h1 h2 hQ
   have ih:=ZI7 H n
   refine .code H.Ztw rfl ?_
   simp(disch:=omega)[Ziv]
   by_cases e1:t.k=u.k
   · by_cases e2:t.s=u.s
     · by_cases e3:t.n=u.n
       · simp(disch:=omega)[e1,e2,e3]
         refine ZKk H ih (by cases t;simp [Ty.sz,Ty.a] at hm⊢;omega) (Ty.fw_args h1) (Ty.fw_args h2) ?_
         simp(disch:=omega)
         rwa [show (dq (t.a=u.a))=dq (t=u) from by
           by_cases e4:t.a=u.a
           · rw [ZDz e4,ZDz (Ty.ext e1 e2 e3 e4)]
           · rw [ZDy e4,ZDy fun h=>e4 (by rw [h])]]
       · rw [ZDy fun h=>e3 (by rw [h])] at hQ
         simp(disch:=omega)[e1,e2,e3]
         exact hQ
     · rw [ZDy fun h=>e2 (by rw [h])] at hQ
       simp(disch:=omega)[e1,e2]
       exact hQ
   · rw [ZDy fun h=>e1 (by rw [h])] at hQ
     simp(disch:=omega)[e1]
     exact hQ
def ZI6 (H:Has S) {t u:Ty} (h1:t.fw) (h2:u.fw) (hQ:Q [pb (dq (t=u))] []):Gives S ZbG [.agg t.cs,.agg u.cs] [] Q:=ZI7 H _ t u Q (Yz _) h1 h2 hQ
def ZI8 (R:HR S) {a b:List LN} (h1:a.length<=100000) (h2:b.length<=100000) (hQ:Q [pb (dq (a=b))] []):Gives S ZHn [.one (.l 1 (strs a)),.one (.l 1 (strs b))] [] Q:=by
 have e1:(strs a).length=a.length:=by simp [strs]
 have e2:(strs b).length=b.length:=by simp [strs]
 refine .code R.zaEqStrings rfl ?_
 simp(disch:=omega)[ZHD]
 by_cases hl:a.length=b.length
 ·simp(disch:=omega)[hl]
  refine Lp.rule (fun (j:Nat)=>[(0,.a (.one (.l 1 (strs a)))),(1,.a (.one (.l 1 (strs b)))),(5,.a (pi j)),o9]) (fun j=>j<=a.length/\a.take j=b.take j) (fun j=>a.length-j) (a₀:=0) Zs ⟨Yd _,by simp⟩ ?_
  rintro j ⟨k1,k2⟩
  by_cases hj:j<a.length
  ·have hjb:j<b.length:=by omega
   have r1:=ZIs (l:=a) (j:=j) Zo
   have r2:=ZIs (l:=b) (j:=j) Zo
   by_cases he:a[j]=b[j]
   ·simp(disch:=omega)[r1,r2,he]
    exact RdN.mk (j+1) Zs ⟨hj,ZHh k2 hj hjb he⟩ Zo
   ·rw [ZDy (ZH9 hj hjb he)] at hQ
    simp(disch:=omega)[r1,r2,he]
    exact hQ
  ·simp(disch:=omega)
   rw [ZDz (ZHu k2 Zo Zo)] at hQ
   exact hQ
 ·simp(disch:=omega)[hl]
  rw [ZDy fun h=>hl (by rw [h])] at hQ
  exact hQ
def ZJy (H:Has S) (R:HR S) {x y:Re} (hx:x.ok) (hy:y.ok) (hQ:Q [pb (dq (x=y))] []):Gives S ZHU [.agg (x.row.map .p),.agg (y.row.map .p)] [] Q:=by
 refine .code R.zaEqReq rfl ?_
 simp(disch:=omega)[ZIp]
 by_cases e1:x.k=y.k
 ·by_cases e2:x.p=y.p
  ·simp(disch:=omega)[e1,e2]
   refine ZI6 H hx.2.1 hy.2.1 ?_
   by_cases e3:x.t=y.t
   ·rw [ZDz e3]
    simp(disch:=omega)
    refine ZI6 H hx.2.2 hy.2.2 ?_
    simp(disch:=omega)
    rwa [show dq (x.o=y.o)=dq (x=y) from by
     by_cases e4:x.o=y.o
     ·rw [ZDz e4,ZDz (by cases x;cases y;simp_all)]
     ·rw [ZDy e4,ZDy fun h=>e4 (by rw [h])]]
   ·rw [ZDy fun h=>e3 (by rw [h])] at hQ
    rw [ZDy e3]
    simp(disch:=omega)
    exact hQ
  ·rw [ZDy fun h=>e2 (by rw [h])] at hQ
   simp(disch:=omega)[e1,e2]
   exact hQ
 ·rw [ZDy fun h=>e1 (by rw [h])] at hQ
  simp(disch:=omega)[e1]
  exact hQ
def Ty.put_none {gs hs:List LN} {t:Ty} (h:t.pick gs (hs.map Ty.par)=none):t.put gs hs= .mk t.k t.s t.n (t.a.map (Ty.put gs hs)):=(Ty.rep_none h).trans rfl
def Ty.par_row (s:LN):(Ty.par s).row=[.i 7,.str s,.i 0,.sl 4 []]:=rfl
def ZGf (H:Has S) {s:LN} (hQ:Q [.agg [.i 7,.s s,.i 0,.l 4 []]] []):Gives S Zbv [.agg [.i 7,.s s,.i 0,.l 4 []]] [] Q:=by
 refine .code H.ZsF rfl ?_
 simp(disch:=omega)[ZhV]
 refine Zon H (m:=0) FTys.nil ?_
 simp(disch:=omega)
 exact hQ
def SubQ (S:SF) (gs hs:List LN) (n:Nat):Prop:= ∀(t:Ty) (Q:QF),t.sz<n->t.fw->Q [.agg (t.put gs hs).cs] []->Gives S ZHX [.agg t.cs,.one (.l 1 (strs gs)),.one (.p (.sl 4 (Ty.encs (hs.map Ty.par))))] [] Q
def ZJz (H:Has S) (R:HR S) {gs hs:List LN} (hg:gs.length<=100000) (hh:hs.length<=100000): ∀n,SubQ S gs hs n
 | 0=>fun _ _ h=>absurd h (YH _)
 | n+1=>by
   intro t Q hm ht hQ
   have ih:=ZJz H R hg hh n
   have hu:(Ty.encs (hs.map Ty.par)).length=hs.length:=by rw [Ty.encs_length,Yh]
   have ha:(Ty.encs t.a).length=t.a.length:=Ty.encs_length
   have hal:=Ty.fw_len ht
   have hhl:=hh
   refine .code R.zdSubst rfl ?_
   have loop:t.pick gs (hs.map Ty.par)=none-> ∀k,k=t.a.length->True:=fun _ _ _=>trivial
   by_cases hp: ∃u,t.pick gs (hs.map Ty.par)=some u
   · obtain ⟨u,hp⟩:=hp
     have hp0:=hp
     unfold Ty.pick at hp
     split at hp
     · rename_i hc
       obtain ⟨c1,c2⟩:=hc
       simp(disch:=omega)[ZHR,c1]
       refine ZIG H Zo (fun h=>absurd c2 h) fun j hj e1 e2=>?_
       have e3:=ZE9 hj e1 e2
       rw [e3] at hp
       have hjh:j<hs.length:=by
         rcases Yt j hs.length with h|h
         · exact h
         · rw [List.getElem?_eq_none (by simpa using h)] at hp;cases hp
       have e4:=Ty.encs_get (l:=hs.map Ty.par) (j:=j) Zo
       rw [List.getElem_map,Ty.par_row] at e4
       have e5:t.put gs hs=Ty.par hs[j]:=by
         rw [Yn,Ya hjh] at hp
         injection hp with hp
         exact (Ty.rep_some hp0).trans hp.symm
       simp(disch:=omega)[e4]
       refine ZGf H ?_
       simp(disch:=omega)
       rw [e5] at hQ
       exact hQ
     · cases hp
   · have hp:t.pick gs (hs.map Ty.par)=none:=by
       cases h:t.pick gs (hs.map Ty.par) with
       | none=>rfl
       | some u=>exact absurd ⟨u,h⟩ hp
     rw [Ty.put_none hp] at hQ
     have fin: ∀G:Prop,(t.k=7->t.s∉gs->G)->(∀j,t.k=7->j<gs.length->hs.length<=j->G)->(t.k≠7->G)->True:=fun _ _ _ _=>trivial
     by_cases c1:t.k=7
     · simp(disch:=omega)[ZHR,c1]
       refine ZIG H Zo (fun h=>?_) fun j hj e1 e2=>?_
       rotate_left
       · have hjh: ¬j<hs.length:=fun hlt=>by
           unfold Ty.pick at hp
           rw [if_pos ⟨c1,e1 ▸ Yl hj⟩,ZE9 hj e1 e2,Yn,Ya hlt] at hp
           cases hp
         simp(disch:=omega)[hjh]
         refine Lp.rule (fun (j:Nat)=>[(1,.a (.one (.l 1 (strs gs)))),(2,.a (.one (.p (.sl 4 (Ty.encs (hs.map Ty.par)))))),(3,.a (.one (.ref ⟨true,10003,0⟩))),(6,.a (.one (.ref ⟨true,10006,0⟩))),(8,.a (.one (.ref ⟨true,10008,0⟩))),(9,.a (pi j)),o9,(10003,.a (.agg t.cs)),(10006,.a (.agg [.i 0,.s [],.i 0,.tip 4 []])),(10008,.a (.agg [.i t.k,.s t.s,.i t.n,.tip 4 (Ty.encs ((t.a.map (Ty.put gs hs)).take j))]))]) (fun j=>j<=t.a.length) (fun j=>t.a.length-j) (a₀:=0) (by simp [c1,Ty.encs]) (Yd _) ?_
         intro j k1
         by_cases hj:j<t.a.length
         · have e:=Ty.encs_get (l:=t.a) (j:=j) Zo
           have el:(Ty.encs ((t.a.map (Ty.put gs hs)).take j)).length<=100000:=by rw [Ty.encs_length];simp;omega
           simp(disch:=omega)[e,c1]
           refine ih _ _ (by have:=Ty.szs_get hj;cases t;simp [Ty.sz,Ty.a] at hm this⊢;omega) (Ty.fws_get (by cases t;exact ht.2.2) hj) ?_
           simp(disch:=omega)[c1]
           exact RdN.mk (j+1) (by simp [Ym,Ya hj,Ty.encs_snoc,c1]) hj Zo
         · simp(disch:=omega)
           rw [Yg (by rw [Yh];omega)]
           exact hQ
       · simp(disch:=omega)
         refine Lp.rule (fun (j:Nat)=>[(1,.a (.one (.l 1 (strs gs)))),(2,.a (.one (.p (.sl 4 (Ty.encs (hs.map Ty.par)))))),(3,.a (.one (.ref ⟨true,10003,0⟩))),(6,.a (.one (.ref ⟨true,10006,0⟩))),(8,.a (.one (.ref ⟨true,10008,0⟩))),(9,.a (pi j)),o9,(10003,.a (.agg t.cs)),(10006,.a (.agg [.i 0,.s [],.i 0,.tip 4 []])),(10008,.a (.agg [.i t.k,.s t.s,.i t.n,.tip 4 (Ty.encs ((t.a.map (Ty.put gs hs)).take j))]))]) (fun j=>j<=t.a.length) (fun j=>t.a.length-j) (a₀:=0) (by simp [c1,Ty.encs]) (Yd _) ?_
         intro j k1
         by_cases hj:j<t.a.length
         · have e:=Ty.encs_get (l:=t.a) (j:=j) Zo
           have el:(Ty.encs ((t.a.map (Ty.put gs hs)).take j)).length<=100000:=by rw [Ty.encs_length];simp;omega
           simp(disch:=omega)[e,c1]
           refine ih _ _ (by have:=Ty.szs_get hj;cases t;simp [Ty.sz,Ty.a] at hm this⊢;omega) (Ty.fws_get (by cases t;exact ht.2.2) hj) ?_
           simp(disch:=omega)[c1]
           exact RdN.mk (j+1) (by simp [Ym,Ya hj,Ty.encs_snoc,c1]) hj Zo
         · simp(disch:=omega)
           rw [Yg (by rw [Yh];omega)]
           exact hQ
     · simp(disch:=omega)[ZHR,c1]
       refine Lp.rule (fun (j:Nat)=>[(1,.a (.one (.l 1 (strs gs)))),(2,.a (.one (.p (.sl 4 (Ty.encs (hs.map Ty.par)))))),(3,.a (.one (.ref ⟨true,10003,0⟩))),(6,.a (.one (.ref ⟨true,10006,0⟩))),(8,.a (.one (.ref ⟨true,10008,0⟩))),(9,.a (pi j)),o9,(10003,.a (.agg t.cs)),(10006,.a (.agg [.i 0,.s [],.i 0,.tip 4 []])),(10008,.a (.agg [.i t.k,.s t.s,.i t.n,.tip 4 (Ty.encs ((t.a.map (Ty.put gs hs)).take j))]))]) (fun j=>j<=t.a.length) (fun j=>t.a.length-j) (a₀:=0) (by simp [Ty.encs]) (Yd _) ?_
       intro j k1
       by_cases hj:j<t.a.length
       · have e:=Ty.encs_get (l:=t.a) (j:=j) Zo
         have el:(Ty.encs ((t.a.map (Ty.put gs hs)).take j)).length<=100000:=by rw [Ty.encs_length];simp;omega
         simp(disch:=omega)[e]
         refine ih _ _ (by have:=Ty.szs_get hj;cases t;simp [Ty.sz,Ty.a] at hm this⊢;omega) (Ty.fws_get (by cases t;exact ht.2.2) hj) ?_
         simp(disch:=omega)
         exact RdN.mk (j+1) (by simp [Ym,Ya hj,Ty.encs_snoc]) hj Zo
       · simp(disch:=omega)
         rw [Yg (by rw [Yh];omega)]
         exact hQ
def ZJj (H:Has S) (R:HR S) {gs hs:List LN} (hg:gs.length<=100000) (hh:hs.length<=100000) {t:Ty} (ht:t.fw) (hQ:Q [.agg (t.put gs hs).cs] []):Gives S ZHC [.agg t.cs,.one (.l 1 (strs gs)),.one (.l 1 (strs hs))] [] Q:=by
 have e1:(strs hs).length=hs.length:=by simp [strs]
 have hhl:=hh
 refine .code R.zuPutq rfl ?_
 simp(disch:=omega)[ZIz]
 refine Lp.rule (fun (j:Nat)=>[(1,.a (.one (.l 1 (strs gs)))),(2,.a (.one (.l 1 (strs hs)))),(3,.a (.one (.ref ⟨true,10003,0⟩))),(6,.a (.one (.ref ⟨true,10006,0⟩))),(7,.a (.one (.tip 4 (Ty.encs ((hs.map Ty.par).take j))))),(8,.a (pi j)),o9,(10003,.a (.agg t.cs)),(10006,.a (.agg [.i 0,.s [],.i 0,.tip 4 []]))]) (fun j=>j<=hs.length) (fun j=>hs.length-j) (a₀:=0) (by simp [Ty.encs]) (Yd _) ?_
 intro j k1
 by_cases hj:j<hs.length
 ·have e:=ZIs (l:=hs) (j:=j) Zo
  have el:(Ty.encs ((hs.map Ty.par).take j)).length<=100000:=by rw [Ty.encs_length];simp;omega
  simp(disch:=omega)[e]
  exact RdN.mk (j+1) (by simp [Ym,Ya hj,Ty.encs_snoc,Ty.par_row]) hj Zo
 ·simp(disch:=omega)
  rw [Yg (by rw [Yh];omega)]
  refine ZJz H R hg hh _ t _ (Yz _) ht ?_
  simp(disch:=omega)
  exact hQ
def ZG2 {α:Type} {f:α->List P} {l:List α} {j:Nat} (h:j<(l.map f).length):(l.map f)[j]=f (l[j]'(by simpa using h)):=List.getElem_map ..
end Go.Am.Fe
end
