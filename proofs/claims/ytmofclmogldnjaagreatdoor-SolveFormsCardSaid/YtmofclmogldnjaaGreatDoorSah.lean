/- Part. -/
import Derived.Test.YtmofclmogldnjaaGreatDoorSag
set_option maxRecDepth 999999
set_option maxHeartbeats 0
set_option linter.all false
section
namespace Go.Am.Fe
open Go.Am.Tx
variable {S:Nat->Option Fn} {Q:List A->List (List C)->Prop}
attribute [simp] Tx.o Tx.og Tx.m Tx.mt Tx.r Tx.q Tx.i Tx.e Tx.v Tx.n Tx.s Tx.z Tx.b
abbrev pi (x:Int):A:= .one (.p (.int .i64 x))
abbrev pu (x:Int):A:= .one (.p (.int .u8 x))
abbrev pb (x:Bool):A:= .one (.p (.bool x))
abbrev ps (x:List Nat):A:= .one (.p (.str x))
def Zfa {x:Int} (h1: -9223372036854775808<=x) (h2:x<=9223372036854775807):IntKind.i64.wrap x=x:=by
 unfold IntKind.wrap IntKind.bits IntKind.signed
 simp
 omega
def RdN {α:Type} (st:α->Env) (Pr:α->Prop) (μ:α->Nat) (a:α) (e:Env):Prop:= ∃a',e=st a'/\Pr a'/\μ a'<μ a
def Zmo {α:Type} {live:List Nat} {st:α->Env} {Pr:α->Prop} {μ:α->Nat} {a:α} {e:Env}:Rd live st Pr μ a e=RdN st Pr μ a (e.norm live):=rfl
def RdN.mk {α:Type} {st:α->Env} {Pr:α->Prop} {μ:α->Nat} {a:α} {e:Env} (a':α) (h:e=st a') (hp:Pr a') (hm:μ a'<μ a):RdN st Pr μ a e:=⟨a',h,hp,hm⟩
noncomputable def dq (p:Prop):Bool:= @decide p (Classical.propDecidable p)
def ZqW {p:Prop}:dq p=true↔p:= @decide_eq_true_iff p (Classical.propDecidable p)
def Ztk {p:Prop}:dq p=false↔ ¬p:= @decide_eq_false_iff_not p (Classical.propDecidable p)
def Zah {p:Prop} (h:p):dq p=true:=ZqW.2 h
def Zaf {p:Prop} (h: ¬p):dq p=false:=Ztk.2 h
def Zjq {p q:Prop} (h:p↔q):dq p=dq q:=by rw [propext h]
theorem Zy8 {p:Prop} {b:Bool} (h:b=true↔p):dq p=b:=by
 cases b
 ·exact Zaf fun hp=>nomatch h.2 hp
 ·exact Zah (h.1 rfl)
inductive Ty where
 | mk (k:Int) (s:List Nat) (n:Int) (args:List Ty)
def Ty.k:Ty->Int| .mk k _ _ _=>k
def Ty.s:Ty->List Nat| .mk _ s _ _=>s
def Ty.n:Ty->Int| .mk _ _ n _=>n
def Ty.a:Ty->List Ty| .mk _ _ _ a=>a
mutual
def Ty.enc:Ty->List P
 | .mk k s n args=>[.int .i64 k,.str s,.int .i64 n,.sl 4 (Ty.encs args)]
def Ty.encs:List Ty->List (List P)
 | []=>[]
 | t::l=>t.enc::Ty.encs l
end
mutual
def Ty.sz:Ty->Nat
 | .mk _ _ _ args=>1+Ty.szs args
def Ty.szs:List Ty->Nat
 | []=>0
 | t::l=>t.sz+Ty.szs l
end
mutual
def Ty.fw:Ty->Prop
 | .mk _ _ _ args=>args.length<=9223372036854775807/\Ty.fws args
def Ty.fws:List Ty->Prop
 | []=>True
 | t::l=>t.fw/\Ty.fws l
end
abbrev Ty.row (t:Ty):List P:=[.int .i64 t.k,.str t.s,.int .i64 t.n,.sl 4 (Ty.encs t.a)]
abbrev Ty.cs (t:Ty):List C:=[.p (.int .i64 t.k),.p (.str t.s),.p (.int .i64 t.n),.p (.sl 4 (Ty.encs t.a))]
def Ty.enc_row (t:Ty):t.enc=t.row:=by cases t;rfl
def Ty.encs_rows: ∀(l:List Ty),Ty.encs l=l.map Ty.row
 | []=>rfl
 | t::l=>by rw [Ty.encs,Ty.encs_rows l,Ty.enc_row];rfl
def Ty.encs_length {l:List Ty}:(Ty.encs l).length=l.length:=by rw [Ty.encs_rows,Yh]
def Ty.eta (t:Ty):t= .mk t.k t.s t.n t.a:=by cases t;rfl
def Ty.ext {t u:Ty} (h1:t.k=u.k) (h2:t.s=u.s) (h3:t.n=u.n) (h4:t.a=u.a):t=u:=by rw [t.eta,u.eta,h1,h2,h3,h4]
def Ty.eq_iff {t u:Ty}:t=u↔t.k=u.k/\t.s=u.s/\t.n=u.n/\t.a=u.a:=⟨fun h=>by subst h;simp,fun ⟨a,b,c,d⟩=>Ty.ext a b c d⟩
def Ty.encs_get {l:List Ty} {j:Nat} (h:j<(Ty.encs l).length):(Ty.encs l)[j]=(l[j]'(by simpa [Ty.encs_length] using h)).row:=by
 simp only [Ty.encs_rows,List.getElem_map]
def Ty.fws_get: ∀{l:List Ty} {j:Nat} (_:Ty.fws l) (h:j<l.length),l[j].fw
 | t::l,0,hf,_=>hf.1
 | t::l,j+1,hf,h=>Ty.fws_get (l:=l) hf.2 (by simpa using h)
def Ty.szs_get: ∀{l:List Ty} {j:Nat} (h:j<l.length),l[j].sz<=Ty.szs l
 | t::l,0,_=>by simp [Ty.szs]
 | t::l,j+1,h=>by have:=Ty.szs_get (l:=l) (j:=j) (by simpa using h);simp [Ty.szs];omega
def Ty.szs_take: ∀{l:List Ty} {j:Nat} (h:j<l.length),Ty.szs (l.take (j+1))=Ty.szs (l.take j)+l[j].sz
 | t::l,0,_=>by simp [Ty.szs]
 | t::l,j+1,h=>by
   have:=Ty.szs_take (l:=l) (j:=j) (by simpa using h)
   simp [Ty.szs];omega
def Ty.szs_take_le {l:List Ty} {j:Nat}:Ty.szs (l.take j)<=Ty.szs l:=by
 induction l generalizing j with
 | nil=>simp [Ty.szs]
 | cons t l ih=>cases j with
   | zero=>simp [Ty.szs]
   | succ j=>simp [Ty.szs];exact ih
def Ty.fw_len {t:Ty} (h:t.fw):t.a.length<=9223372036854775807:=by cases t;exact h.1
def Ty.fw_a {t:Ty} (h:t.fw):Ty.fws t.a:=by cases t;exact h.2
def Ty.sz_a {t:Ty}:Ty.szs t.a<t.sz:=by cases t;simp [Ty.sz,Ty.a]
def Ty.sz_eq {t:Ty}:t.sz=1+Ty.szs t.a:=by cases t;rfl
def Ty.mem_fws: ∀{l:List Ty},(∀t∈l,t.fw)->Ty.fws l
 | [],_=>trivial
 | t::l,h=>⟨h t Yr,Ty.mem_fws fun u hu=>h u (Yk _ hu)⟩
structure Con where
 k:Int
 a:Ty
 b:Ty
 p:List Nat
structure Alt where
 l:List Con
 z:Int
structure Pb where
 n:Int
 l:List Con
 c:List (List Alt)
abbrev Con.row (x:Con):List P:=[.int .i64 x.k,.int .i64 x.a.k,.str x.a.s,.int .i64 x.a.n,.sl 4 (Ty.encs x.a.a),.int .i64 x.b.k,.str x.b.s,.int .i64 x.b.n,.sl 4 (Ty.encs x.b.a),.str x.p]
abbrev Alt.row (x:Alt):List P:=[.sl 10 (x.l.map Con.row),.int .i64 x.z]
abbrev ZaU (l:List Alt):List P:=[.sl 2 (l.map Alt.row)]
abbrev Pb.row (x:Pb):List P:=[.int .i64 x.n,.sl 10 (x.l.map Con.row),.sl 1 (x.c.map ZaU)]
abbrev Con.cs (x:Con):List C:=[.p (.int .i64 x.k),.p (.int .i64 x.a.k),.p (.str x.a.s),.p (.int .i64 x.a.n),.p (.sl 4 (Ty.encs x.a.a)),.p (.int .i64 x.b.k),.p (.str x.b.s),.p (.int .i64 x.b.n),.p (.sl 4 (Ty.encs x.b.a)),.p (.str x.p)]
abbrev Pb.cs (x:Pb):List C:=[.p (.int .i64 x.n),.p (.sl 10 (x.l.map Con.row)),.p (.sl 1 (x.c.map ZaU))]
def Ok {α:Type} (p:α->Prop) (l:List α):Prop:=l.length<=9223372036854775807/\ ∀x∈l,p x
def Con.ok (x:Con):Prop:=x.a.fw/\x.b.fw
def Alt.ok (x:Alt):Prop:=Ok Con.ok x.l
def Pb.ok (x:Pb):Prop:=Ok Con.ok x.l/\Ok (Ok Alt.ok) x.c
def ZcN {α:Type} {p:α->Prop} {l:List α} {j:Nat} (h: ∀x∈l.take j,p x) (hj:l.length<=j): ∀x∈l,p x:=by rwa [Yg hj] at h
def ZcJ {α:Type} {p:α->Prop} {l:List α} {j:Nat} (hj:j<l.length) (h: ∀x∈l.take j,p x) (hx:p l[j]): ∀x∈l.take (j+1),p x:=by
 rw [Ym,Ya hj]
 intro x hm
 rcases List.mem_append.1 hm with hm|hm
 ·exact h x hm
 ·simp at hm;subst hm;exact hx
end Go.Am.Fe
end
section
namespace Go.Am.Fe
variable {S:Nat->Option Fn} {Q:List A->List (List C)->Prop}
attribute [local simp] Zfa if_pos if_neg decide_eq_true decide_eq_false Yi Yj Zmo Ops.callv List.idxOf?_cons
def ChP (c:Nat):Prop:=97<=c/\c<=122∨65<=c/\c<=90∨48<=c/\c<=57∨c=95
def NmP (s:List Nat):Prop:=1<=s.length/\s.length<=24/\(∀c,s[0]? =some c->65<=c/\c<=90)/\ ∀c∈s,ChP c
def i97 {x:Nat}:((97:Int)<=x)=(97<=x):=propext ⟨by omega,by omega⟩
def i122 {x:Nat}:((x:Int)<=122)=(x<=122):=propext ⟨by omega,by omega⟩
def i65 {x:Nat}:((65:Int)<=x)=(65<=x):=propext ⟨by omega,by omega⟩
def i90 {x:Nat}:((x:Int)<=90)=(x<=90):=propext ⟨by omega,by omega⟩
def i48 {x:Nat}:((48:Int)<=x)=(48<=x):=propext ⟨by omega,by omega⟩
def i57 {x:Nat}:((x:Int)<=57)=(x<=57):=propext ⟨by omega,by omega⟩
def i95 {x:Nat}:((x:Int)=95)=(x=95):=propext ⟨by omega,by omega⟩
def ZaD (H:Has S) {s:List Nat} (hQ:Q [pb (dq (NmP s))] []):Gives S Za9 [ps s] [] Q:=by
 refine .code H.Zkq rfl ?_
 simp(disch:=omega)[Zdq]
 have no: ¬NmP s->Q [pb false] []:=fun h=>by rwa [Zaf h] at hQ
 by_cases h1:s.length<1
 · simp(disch:=omega)[h1]
   exact no fun h=>by have:=h.1;omega
 · by_cases h2:s.length>24
   · simp(disch:=omega)[h1,h2]
     exact no fun h=>by have:=h.2.1;omega
   · by_cases h3:(s[0]:Int)<65
     · simp(disch:=omega)[h1,h2,h3]
       exact no fun h=>by have:=h.2.2.1 _ (Ya Zo);omega
     · by_cases h4:(s[0]:Int)>90
       · simp(disch:=omega)[h1,h2,h3,h4]
         exact no fun h=>by have:=h.2.2.1 _ (Ya Zo);omega
       · simp(disch:=omega)[h1,h2,h3,h4]
         refine Lp.rule (fun j:Nat=>[(0,.a (ps s)),(24,.a (pi s.length)),(25,.a (pi j)),(9999,.objs [])]) (fun j=>j<=s.length/\ ∀c∈s.take j,ChP c) (fun j=>s.length-j) (a₀:=0) Zs ⟨Yd _,by simp⟩ ?_
         rintro j ⟨k1,k2⟩
         by_cases hj:j<s.length
         · simp(disch:=omega)
           have yes:ChP s[j]-> ∀c∈s.take (j+1),ChP c:=fun h=>ZcJ hj k2 h
           by_cases c1:97<=s[j]<;>by_cases c2:s[j]<=122<;>by_cases c3:65<=s[j]<;>by_cases c4:s[j]<=90<;>by_cases c5:48<=s[j]<;>by_cases c6:s[j]<=57<;>by_cases c7:s[j]=95<;>first
             | (exfalso;omega)
             | (simp(disch:=omega)[c1,c2,c3,c4,c5,c6,c7,i97,i122,i65,i90,i48,i57,i95]
                first
                 | exact RdN.mk (j+1) Zs ⟨hj,yes (by unfold ChP;omega)⟩ Zo
                 | exact no fun hn=>by have:=hn.2.2.2 _ (Yl hj);unfold ChP at this;omega)
         · simp(disch:=omega)
           rw [Zah ⟨by omega,by omega,fun c hc=>by rw [Ya Zo] at hc;injection hc with hc;omega,ZcN k2 Zo⟩] at hQ
           exact hQ
def Zqk (H:Has S) {c:Nat} (hQ:Q [pb (dq (65<=c/\c<=90))] []):Gives S Zen [pu c] [] Q:=by
 refine .code H.Zp4 rfl ?_
 simp(disch:=omega)[Zfs]
 by_cases c3:65<=c<;>by_cases c4:c<=90<;>first
    | (rw [Zah Zo] at hQ;simp(disch:=omega)[c3,c4,i65,i90];exact hQ)
    | (rw [Zaf Zo] at hQ;simp(disch:=omega)[c3,c4,i65,i90];exact hQ)
def ZvG (H:Has S) {c:Nat} (hQ:Q [pb (dq (48<=c/\c<=57))] []):Gives S Zgi [pu c] [] Q:=by
 refine .code H.Zuw rfl ?_
 simp(disch:=omega)[Zjb]
 by_cases c3:48<=c<;>by_cases c4:c<=57<;>first
    | (rw [Zah Zo] at hQ;simp(disch:=omega)[c3,c4,i48,i57];exact hQ)
    | (rw [Zaf Zo] at hQ;simp(disch:=omega)[c3,c4,i48,i57];exact hQ)
def ZsH (H:Has S) {c:Nat} (hQ:Q [pb (dq (97<=c/\c<=122∨65<=c/\c<=90∨c=95))] []):Gives S Zfi [pu c] [] Q:=by
 refine .code H.Zsv rfl ?_
 simp(disch:=omega)[ZgF]
 by_cases c1:97<=c<;>by_cases c2:c<=122<;>by_cases c3:65<=c<;>by_cases c4:c<=90<;>by_cases c7:c=95<;>first
    | (exfalso;omega)
    | (rw [Zah Zo] at hQ;simp(disch:=omega)[c1,c2,c3,c4,c7,i97,i122,i65,i90,i95];exact hQ)
    | (rw [Zaf Zo] at hQ;simp(disch:=omega)[c1,c2,c3,c4,c7,i97,i122,i65,i90,i95];exact hQ)
def Zat (H:Has S) {s:List Nat} (hQ:Q [pb (dq (NmP s))] []):Gives S ZbE [ps s] [] Q:=by
 refine .code H.ZnE rfl ?_
 have no: ¬NmP s->Q [pb false] []:=fun h=>by rwa [Zaf h] at hQ
 simp(disch:=omega)[ZeA]
 by_cases h1:s=[]
 ·simp(disch:=omega)[h1]
  exact no fun h=>by have:=h.1;rw [h1] at this;simp at this
 ·have h1':0<s.length:=List.length_pos_iff.2 h1
  by_cases h2:s.length>24
  ·simp(disch:=omega)[h1,h2]
   exact no fun h=>by have:=h.2.1;omega
  ·simp(disch:=omega)[h1,h2]
   refine Zqk H ?_
   by_cases h3:65<=s[0]/\s[0]<=90
   ·rw [Zah h3]
    simp(disch:=omega)[h1,h2]
    refine Lp.rule (fun j:Nat=>[(0,.a (ps s)),(3,.a (pi j)),(9999,.objs [])]) (fun j=>j<=s.length/\ ∀c∈s.take j,ChP c) (fun j=>s.length-j) (a₀:=0) Zs ⟨Yd _,by simp⟩ ?_
    rintro j ⟨k1,k2⟩
    by_cases hj:j<s.length
    ·simp(disch:=omega)
     have yes:ChP s[j]-> ∀c∈s.take (j+1),ChP c:=fun h=>ZcJ hj k2 h
     refine ZsH H ?_
     by_cases hL:97<=s[j]/\s[j]<=122∨65<=s[j]/\s[j]<=90∨s[j]=95
     ·rw [Zah hL]
      simp(disch:=omega)
      exact RdN.mk (j+1) Zs ⟨hj,yes (by unfold ChP;omega)⟩ Zo
     ·rw [Zaf hL]
      simp(disch:=omega)
      refine ZvG H ?_
      by_cases hD:48<=s[j]/\s[j]<=57
      ·rw [Zah hD]
       simp(disch:=omega)
       exact RdN.mk (j+1) Zs ⟨hj,yes (by unfold ChP;omega)⟩ Zo
      ·rw [Zaf hD]
       simp(disch:=omega)
       exact no fun hn=>by have:=hn.2.2.2 _ (Yl hj);unfold ChP at this;omega
    ·simp(disch:=omega)
     rw [Zah ⟨by omega,by omega,fun c hc=>by rw [Ya Zo] at hc;injection hc with hc;omega,ZcN k2 Zo⟩] at hQ
     exact hQ
   ·rw [Zaf h3]
    simp(disch:=omega)[h1,h2]
    exact no fun h=>by have:=h.2.2.1 _ (Ya Zo);omega
end Go.Am.Fe
end
section
namespace Go.Am.Fe
variable {S:Nat->Option Fn} {Q:List A->List (List C)->Prop}
attribute [local simp] Zfa if_pos if_neg decide_eq_true decide_eq_false Yi Yj Zmo Ops.callv List.idxOf?_cons Ty.encs_length
def nInt:List Nat:=[73,110,116]
def ZwY:List Nat:=[66,111,111,108]
def ZxS:List Nat:=[84,101,120,116]
def Zxj:List Nat:=[85,110,105,116]
def nArr:List Nat:=[65,114,114,97,121]
def ZxU:List Nat:=[87,101,97,107]
def Zrl (t:Ty):Prop:=t.a.length=0/\(t.s=nInt∨t.s=ZwY∨t.s=ZxS∨t.s=Zxj)∨t.a.length=1/\(t.s=nArr∨t.s=ZxU)
def ShP (o:Bool) (t:Ty):Prop:=
 if t.k=12 then o=true/\t.a.length=0/\t.s=[]/\0<=t.n/\t.n<40
 else t.n=0/\(
  if t.k=1∨t.k=2∨t.k=3∨t.k=4 then t.a.length=0/\t.s=[]
  else if t.k=5∨t.k=11 then t.a.length=1/\t.s=[]
  else if t.k=6 then t.a.length<=3/\NmP t.s/\ ¬Zrl t
  else if t.k=7∨t.k=9 then t.a.length=0/\NmP t.s
  else if t.k=8 then t.a.length=1/\NmP t.s/\ ∀u,t.a[0]? =some u->u.k≠10/\u.k≠9
  else if t.k=10 then 1<=t.a.length/\t.a.length<=7/\t.s=[]
  else False)
def strs (l:List (List Nat)):List (List P):=l.map fun s=>[.str s]
def ZoV (H:Has S) {l:List (List Nat)} {x:List Nat} (hl:l.length<=9223372036854775807) (hQ:Q [pb (dq (x∈l))] []):Gives S Zau [.one (.p (.sl 1 (strs l))),ps x] [] Q:=by
 have e1:(strs l).length=l.length:=by simp [strs]
 refine .code H.Zcx rfl ?_
 simp(disch:=omega)[ZaE]
 refine .code H.Zdh rfl ?_
 simp(disch:=omega)[ZaS]
 refine Lp.rule (fun (j:Nat)=>[(0,.a (.one (.p (.sl 1 (strs l))))),(1,.a (ps x)),(7,.a (pi l.length)),(8,.a (pi j)),(9999,.objs [])]) (fun j=>j<=l.length/\ ∀y∈l.take j,y≠x) (fun j=>l.length-j) (a₀:=0) (by simp [e1]) ⟨Yd _,by simp⟩ ?_
 rintro j ⟨k1,k2⟩
 by_cases hj:j<l.length
 ·have r1:(strs l)[j]'(by omega)=[.str l[j]]:=by simp [strs]
  by_cases he:x=l[j]
  ·rw [Zah (by rw [he];exact Yl hj)] at hQ
   simp(disch:=omega)[r1,<-he]
   exact hQ
  ·simp(disch:=omega)[r1,he]
   exact RdN.mk (j+1) Zs ⟨hj,ZcJ hj k2 fun h=>he h.symm⟩ Zo
 ·rw [Zaf fun h=>ZcN k2 Zo _ h rfl] at hQ
  simp(disch:=omega)
  exact hQ
def Qd {p:Prop} [Decidable p] (h1:p->Q [pb true] []) (h0: ¬p->Q [pb false] []):Q [pb (decide p)] []:=by
 by_cases h:p
 ·rw [decide_eq_true h];exact h1 h
 ·rw [decide_eq_false h];exact h0 h
def ZsV (H:Has S) {t:Ty} {o:Bool} (ht:t.fw) (hQ:Q [pb (dq (ShP o t))] []):Gives S Zb3 [.agg t.cs,pb o] [] Q:=by
 have g5:=Ty.fw_len ht
 have g6:(Ty.encs t.a).length=t.a.length:=Ty.encs_length
 have yes:ShP o t->Q [pb true] []:=fun h=>by rwa [Zah h] at hQ
 have no: ¬ShP o t->Q [pb false] []:=fun h=>by rwa [Zaf h] at hQ
 refine .code H.Zlf rfl ?_
 simp(disch:=omega)[Zdi]
 by_cases h12:t.k=12
 ·have key:ShP o t↔(o=true/\t.a.length=0/\t.s=[]/\0<=t.n/\t.n<40):=by simp [ShP,h12]
  simp(disch:=omega)[h12]
  cases o<;>simp(disch:=omega)<;>(repeat' (first|(refine yes (key.2 ?_);solve|simp_all|omega|(simp_all;omega))|(refine no (fun h=>?_);have:=key.1 h;solve|simp_all|omega|(simp_all;omega))|(refine Za4 (fun h=>?_) (fun h=>?_)<;>(simp only [Zx3] at h;simp(disch:=omega)[h]))|(refine Za6 (fun h=>?_) (fun h=>?_)<;>(simp only [Zx3] at h;simp(disch:=omega)[h]))|refine Qd (fun h=>?_) (fun h=>?_)|(refine ZaD H ?_;by_cases hN:NmP t.s<;>first|(rw [Zah hN];simp(disch:=omega))|(rw [Zaf hN];simp(disch:=omega)))|(refine Zat H ?_;by_cases hN:NmP t.s<;>first|(rw [Zah hN];simp(disch:=omega))|(rw [Zaf hN];simp(disch:=omega)))))
 ·by_cases hn:t.n=0
  rotate_left
  ·simp(disch:=omega)[hn,h12]
   exact no (by simp [ShP,hn,h12])
  by_cases h1:t.k=1∨t.k=2∨t.k=3∨t.k=4
  ·have key:ShP o t↔t.a.length=0/\t.s=[]:=by unfold ShP;rw [if_neg h12,if_pos h1];simp [hn]
   rcases h1 with h1|h1|h1|h1<;>simp(disch:=omega)[h1,hn]<;>(repeat' (first|(refine yes (key.2 ?_);solve|simp_all|omega|(simp_all;omega))|(refine no (fun h=>?_);have:=key.1 h;solve|simp_all|omega|(simp_all;omega))|(refine Za4 (fun h=>?_) (fun h=>?_)<;>(simp only [Zx3] at h;simp(disch:=omega)[h]))|(refine Za6 (fun h=>?_) (fun h=>?_)<;>(simp only [Zx3] at h;simp(disch:=omega)[h]))|refine Qd (fun h=>?_) (fun h=>?_)|(refine ZaD H ?_;by_cases hN:NmP t.s<;>first|(rw [Zah hN];simp(disch:=omega))|(rw [Zaf hN];simp(disch:=omega)))|(refine Zat H ?_;by_cases hN:NmP t.s<;>first|(rw [Zah hN];simp(disch:=omega))|(rw [Zaf hN];simp(disch:=omega)))))
  by_cases h2:t.k=5∨t.k=11
  ·have key:ShP o t↔t.a.length=1/\t.s=[]:=by unfold ShP;rw [if_neg h12,if_neg h1,if_pos h2];simp [hn]
   rcases h2 with h1|h1<;>simp(disch:=omega)[h1,hn]<;>(repeat' (first|(refine yes (key.2 ?_);solve|simp_all|omega|(simp_all;omega))|(refine no (fun h=>?_);have:=key.1 h;solve|simp_all|omega|(simp_all;omega))|(refine Za4 (fun h=>?_) (fun h=>?_)<;>(simp only [Zx3] at h;simp(disch:=omega)[h]))|(refine Za6 (fun h=>?_) (fun h=>?_)<;>(simp only [Zx3] at h;simp(disch:=omega)[h]))|refine Qd (fun h=>?_) (fun h=>?_)|(refine ZaD H ?_;by_cases hN:NmP t.s<;>first|(rw [Zah hN];simp(disch:=omega))|(rw [Zaf hN];simp(disch:=omega)))|(refine Zat H ?_;by_cases hN:NmP t.s<;>first|(rw [Zah hN];simp(disch:=omega))|(rw [Zaf hN];simp(disch:=omega)))))
  by_cases h3:t.k=6
  ·have key:ShP o t↔t.a.length<=3/\NmP t.s/\ ¬Zrl t:=by unfold ShP;rw [if_neg h12,if_neg h1,if_neg h2,if_pos h3];simp [hn]
   simp(disch:=omega)[h3,hn]
   by_cases e0:t.a=[]
   ·simp(disch:=omega)[e0]
    refine ZoV H (l:=[nInt,ZwY,ZxS,Zxj]) Zd ?_
    by_cases hm:t.s∈[nInt,ZwY,ZxS,Zxj]
    ·have hb:Zrl t:= .inl ⟨by rw [e0];rfl,by simpa using hm⟩
     rw [Zah hm]
     simp(disch:=omega)[e0]
     refine ZaD H ?_
     by_cases hN:NmP t.s<;>first|(rw [Zah hN];simp(disch:=omega))|(rw [Zaf hN];simp(disch:=omega))
     all_goals exact no fun h=>(key.1 h).2.2 hb
    ·have hb: ¬Zrl t:=by
      rintro (⟨_,h⟩|⟨h,_⟩)
      ·exact hm (by simpa using h)
      ·rw [e0] at h;cases h
     rw [Zaf hm]
     simp(disch:=omega)[e0]
     refine ZaD H ?_
     by_cases hN:NmP t.s
     ·rw [Zah hN]
      simp(disch:=omega)
      exact yes (key.2 ⟨by rw [e0];simp,hN,hb⟩)
     ·rw [Zaf hN]
      simp(disch:=omega)
      exact no fun h=>hN (key.1 h).2.1
   ·have e0':0<t.a.length:=List.length_pos_iff.2 e0
    have hb:Zrl t↔t.a.length=1/\(t.s=nArr∨t.s=ZxU):=⟨fun h=>h.resolve_left fun h=>by omega,.inr⟩
    rw [hb] at key
    simp(disch:=omega)[e0]
    by_cases e1:t.a.length=1
    ·by_cases e2:t.s=[65,114,114,97,121]
     ·simp(disch:=omega)[e1,e2]
      refine ZaD H ?_
      by_cases hN:NmP [65,114,114,97,121]<;>first|(rw [Zah hN];simp(disch:=omega))|(rw [Zaf hN];simp(disch:=omega))
      all_goals exact no fun h=>(key.1 h).2.2 ⟨e1,.inl e2⟩
     ·by_cases e3:t.s=[87,101,97,107]
      ·simp(disch:=omega)[e1,e2,e3]
       refine ZaD H ?_
       by_cases hN:NmP [87,101,97,107]<;>first|(rw [Zah hN];simp(disch:=omega))|(rw [Zaf hN];simp(disch:=omega))
       all_goals exact no fun h=>(key.1 h).2.2 ⟨e1,.inr e3⟩
      ·simp(disch:=omega)[e1,e2,e3]
       refine ZaD H ?_
       by_cases hN:NmP t.s<;>first|(rw [Zah hN];simp(disch:=omega))|(rw [Zaf hN];simp(disch:=omega))
       ·exact yes (key.2 ⟨by omega,hN,by rintro ⟨_,h|h⟩;exact e2 h;exact e3 h⟩)
       ·exact no fun h=>hN (key.1 h).2.1
    ·simp(disch:=omega)[e1]
     by_cases e4:t.a.length<=3
     ·simp(disch:=omega)[e4]
      refine ZaD H ?_
      by_cases hN:NmP t.s<;>first|(rw [Zah hN];simp(disch:=omega))|(rw [Zaf hN];simp(disch:=omega))
      ·exact yes (key.2 ⟨by omega,hN,fun h=>e1 h.1⟩)
      ·exact no fun h=>hN (key.1 h).2.1
     ·simp(disch:=omega)[e4]
      exact no fun h=>e4 (key.1 h).1
  by_cases h4:t.k=7∨t.k=9
  ·have key:ShP o t↔t.a.length=0/\NmP t.s:=by unfold ShP;rw [if_neg h12,if_neg h1,if_neg h2,if_neg h3,if_pos h4];simp [hn]
   rcases h4 with h1|h1<;>simp(disch:=omega)[h1,hn]<;>(repeat' (first|(refine yes (key.2 ?_);solve|simp_all|omega|(simp_all;omega))|(refine no (fun h=>?_);have:=key.1 h;solve|simp_all|omega|(simp_all;omega))|(refine Za4 (fun h=>?_) (fun h=>?_)<;>(simp only [Zx3] at h;simp(disch:=omega)[h]))|(refine Za6 (fun h=>?_) (fun h=>?_)<;>(simp only [Zx3] at h;simp(disch:=omega)[h]))|refine Qd (fun h=>?_) (fun h=>?_)|(refine ZaD H ?_;by_cases hN:NmP t.s<;>first|(rw [Zah hN];simp(disch:=omega))|(rw [Zaf hN];simp(disch:=omega)))|(refine Zat H ?_;by_cases hN:NmP t.s<;>first|(rw [Zah hN];simp(disch:=omega))|(rw [Zaf hN];simp(disch:=omega)))))
  by_cases h5:t.k=8
  ·have key:ShP o t↔t.a.length=1/\NmP t.s/\ ∀u,t.a[0]? =some u->u.k≠10/\u.k≠9:=by unfold ShP;rw [if_neg h12,if_neg h1,if_neg h2,if_neg h3,if_neg h4,if_pos h5];simp [hn]
   simp(disch:=omega)[h5,hn]
   refine Za4 (fun h=>?_) (fun h=>?_)
   ·simp only [decide_eq_true_eq] at h
    have r1:=Ty.encs_get (l:=t.a) (j:=0) Zo
    have r2:t.a[0]? =some (t.a[0]'(by omega)):=Ya _
    rw [r2] at key
    simp only [Ye,forall_eq'] at key
    simp(disch:=omega)[h,r1]
    refine ZaD H ?_
    by_cases hN:NmP t.s
    ·rw [Zah hN]
     by_cases e1:t.a[0].k=10<;>by_cases e2:t.a[0].k=9<;>(simp(disch:=omega)[r1,e1,e2];(repeat' (first|(refine yes (key.2 ?_);solve|simp_all|omega|(simp_all;omega))|(refine no (fun h=>?_);have:=key.1 h;solve|simp_all|omega|(simp_all;omega))|(refine Za4 (fun h=>?_) (fun h=>?_)<;>(simp only [Zx3] at h;simp(disch:=omega)[h]))|(refine Za6 (fun h=>?_) (fun h=>?_)<;>(simp only [Zx3] at h;simp(disch:=omega)[h]))|refine Qd (fun h=>?_) (fun h=>?_)|(refine ZaD H ?_;by_cases hN:NmP t.s<;>first|(rw [Zah hN];simp(disch:=omega))|(rw [Zaf hN];simp(disch:=omega)))|(refine Zat H ?_;by_cases hN:NmP t.s<;>first|(rw [Zah hN];simp(disch:=omega))|(rw [Zaf hN];simp(disch:=omega))))))
    ·rw [Zaf hN]
     simp(disch:=omega)
     (repeat' (first|(refine yes (key.2 ?_);solve|simp_all|omega|(simp_all;omega))|(refine no (fun h=>?_);have:=key.1 h;solve|simp_all|omega|(simp_all;omega))|(refine Za4 (fun h=>?_) (fun h=>?_)<;>(simp only [Zx3] at h;simp(disch:=omega)[h]))|(refine Za6 (fun h=>?_) (fun h=>?_)<;>(simp only [Zx3] at h;simp(disch:=omega)[h]))|refine Qd (fun h=>?_) (fun h=>?_)|(refine ZaD H ?_;by_cases hN:NmP t.s<;>first|(rw [Zah hN];simp(disch:=omega))|(rw [Zaf hN];simp(disch:=omega)))|(refine Zat H ?_;by_cases hN:NmP t.s<;>first|(rw [Zah hN];simp(disch:=omega))|(rw [Zaf hN];simp(disch:=omega)))))
   ·simp only [decide_eq_false_iff_not] at h
    simp(disch:=omega)[h]
    (repeat' (first|(refine yes (key.2 ?_);solve|simp_all|omega|(simp_all;omega))|(refine no (fun h=>?_);have:=key.1 h;solve|simp_all|omega|(simp_all;omega))|(refine Za4 (fun h=>?_) (fun h=>?_)<;>(simp only [Zx3] at h;simp(disch:=omega)[h]))|(refine Za6 (fun h=>?_) (fun h=>?_)<;>(simp only [Zx3] at h;simp(disch:=omega)[h]))|refine Qd (fun h=>?_) (fun h=>?_)|(refine ZaD H ?_;by_cases hN:NmP t.s<;>first|(rw [Zah hN];simp(disch:=omega))|(rw [Zaf hN];simp(disch:=omega)))|(refine Zat H ?_;by_cases hN:NmP t.s<;>first|(rw [Zah hN];simp(disch:=omega))|(rw [Zaf hN];simp(disch:=omega)))))
  by_cases h6:t.k=10
  ·have key:ShP o t↔1<=t.a.length/\t.a.length<=7/\t.s=[]:=by unfold ShP;rw [if_neg h12,if_neg h1,if_neg h2,if_neg h3,if_neg h4,if_neg h5,if_pos h6];simp [hn]
   simp(disch:=omega)[h6,hn]
   (repeat' (first|(refine yes (key.2 ?_);solve|simp_all|omega|(simp_all;omega))|(refine no (fun h=>?_);have:=key.1 h;solve|simp_all|omega|(simp_all;omega))|(refine Za4 (fun h=>?_) (fun h=>?_)<;>(simp only [Zx3] at h;simp(disch:=omega)[h]))|(refine Za6 (fun h=>?_) (fun h=>?_)<;>(simp only [Zx3] at h;simp(disch:=omega)[h]))|refine Qd (fun h=>?_) (fun h=>?_)|(refine ZaD H ?_;by_cases hN:NmP t.s<;>first|(rw [Zah hN];simp(disch:=omega))|(rw [Zaf hN];simp(disch:=omega)))|(refine Zat H ?_;by_cases hN:NmP t.s<;>first|(rw [Zah hN];simp(disch:=omega))|(rw [Zaf hN];simp(disch:=omega)))))
  ·have key: ¬ShP o t:=by unfold ShP;rw [if_neg h12,if_neg h1,if_neg h2,if_neg h3,if_neg h4,if_neg h5,if_neg h6];simp
   simp only [not_or] at h1 h2 h4
   simp(disch:=omega)[h12,hn,h1,h2,h3,h4,h5,h6]
   exact no key
end Go.Am.Fe
end
section
namespace Go.Am.Fe
variable {S:Nat->Option Fn} {Q:List A->List (List C)->Prop}
attribute [local simp] Zfa if_pos if_neg decide_eq_true decide_eq_false Yi Yj Zmo Ops.callv List.idxOf?_cons Ty.encs_length
def ZxV (H:Has S) {t:Ty} {o:Bool} (ht:t.fw) (hQ:Q [pb (dq (ShP o t))] []):Gives S Zgr [.agg t.cs,pb o] [] Q:=by
 have g5:=Ty.fw_len ht
 have g6:(Ty.encs t.a).length=t.a.length:=Ty.encs_length
 have yes:ShP o t->Q [pb true] []:=fun h=>by rwa [Zah h] at hQ
 have no: ¬ShP o t->Q [pb false] []:=fun h=>by rwa [Zaf h] at hQ
 refine .code H.Zuh rfl ?_
 simp(disch:=omega)[Zi2]
 by_cases h12:t.k=12
 ·have key:ShP o t↔(o=true/\t.a.length=0/\t.s=[]/\0<=t.n/\t.n<40):=by simp [ShP,h12]
  simp(disch:=omega)[h12]
  cases o<;>simp(disch:=omega)<;>(repeat' (first|(refine yes (key.2 ?_);solve|simp_all|omega|(simp_all;omega))|(refine no (fun h=>?_);have:=key.1 h;solve|simp_all|omega|(simp_all;omega))|(refine Za4 (fun h=>?_) (fun h=>?_)<;>(simp only [Zx3] at h;simp(disch:=omega)[h]))|(refine Za6 (fun h=>?_) (fun h=>?_)<;>(simp only [Zx3] at h;simp(disch:=omega)[h]))|refine Qd (fun h=>?_) (fun h=>?_)|(refine ZaD H ?_;by_cases hN:NmP t.s<;>first|(rw [Zah hN];simp(disch:=omega))|(rw [Zaf hN];simp(disch:=omega)))|(refine Zat H ?_;by_cases hN:NmP t.s<;>first|(rw [Zah hN];simp(disch:=omega))|(rw [Zaf hN];simp(disch:=omega)))))
 ·by_cases hn:t.n=0
  rotate_left
  ·simp(disch:=omega)[hn,h12]
   exact no (by simp [ShP,hn,h12])
  by_cases h1:t.k=1∨t.k=2∨t.k=3∨t.k=4
  ·have key:ShP o t↔t.a.length=0/\t.s=[]:=by unfold ShP;rw [if_neg h12,if_pos h1];simp [hn]
   rcases h1 with h1|h1|h1|h1<;>simp(disch:=omega)[h1,hn]<;>(repeat' (first|(refine yes (key.2 ?_);solve|simp_all|omega|(simp_all;omega))|(refine no (fun h=>?_);have:=key.1 h;solve|simp_all|omega|(simp_all;omega))|(refine Za4 (fun h=>?_) (fun h=>?_)<;>(simp only [Zx3] at h;simp(disch:=omega)[h]))|(refine Za6 (fun h=>?_) (fun h=>?_)<;>(simp only [Zx3] at h;simp(disch:=omega)[h]))|refine Qd (fun h=>?_) (fun h=>?_)|(refine ZaD H ?_;by_cases hN:NmP t.s<;>first|(rw [Zah hN];simp(disch:=omega))|(rw [Zaf hN];simp(disch:=omega)))|(refine Zat H ?_;by_cases hN:NmP t.s<;>first|(rw [Zah hN];simp(disch:=omega))|(rw [Zaf hN];simp(disch:=omega)))))
  by_cases h2:t.k=5∨t.k=11
  ·have key:ShP o t↔t.a.length=1/\t.s=[]:=by unfold ShP;rw [if_neg h12,if_neg h1,if_pos h2];simp [hn]
   rcases h2 with h1|h1<;>simp(disch:=omega)[h1,hn]<;>(repeat' (first|(refine yes (key.2 ?_);solve|simp_all|omega|(simp_all;omega))|(refine no (fun h=>?_);have:=key.1 h;solve|simp_all|omega|(simp_all;omega))|(refine Za4 (fun h=>?_) (fun h=>?_)<;>(simp only [Zx3] at h;simp(disch:=omega)[h]))|(refine Za6 (fun h=>?_) (fun h=>?_)<;>(simp only [Zx3] at h;simp(disch:=omega)[h]))|refine Qd (fun h=>?_) (fun h=>?_)|(refine ZaD H ?_;by_cases hN:NmP t.s<;>first|(rw [Zah hN];simp(disch:=omega))|(rw [Zaf hN];simp(disch:=omega)))|(refine Zat H ?_;by_cases hN:NmP t.s<;>first|(rw [Zah hN];simp(disch:=omega))|(rw [Zaf hN];simp(disch:=omega)))))
  by_cases h3:t.k=6
  ·have key:ShP o t↔t.a.length<=3/\NmP t.s/\ ¬Zrl t:=by unfold ShP;rw [if_neg h12,if_neg h1,if_neg h2,if_pos h3];simp [hn]
   simp(disch:=omega)[h3,hn]
   by_cases e0:t.a=[]
   ·by_cases q1:t.s=[73,110,116]
    ·simp(disch:=omega)[e0,q1]
     exact no fun h=>(key.1 h).2.2 (.inl ⟨by rw [e0];rfl,.inl q1⟩)
    by_cases q2:t.s=[66,111,111,108]
    ·simp(disch:=omega)[e0,q1,q2]
     exact no fun h=>(key.1 h).2.2 (.inl ⟨by rw [e0];rfl,.inr (.inl q2)⟩)
    by_cases q3:t.s=[84,101,120,116]
    ·simp(disch:=omega)[e0,q1,q2,q3]
     exact no fun h=>(key.1 h).2.2 (.inl ⟨by rw [e0];rfl,.inr (.inr (.inl q3))⟩)
    by_cases q4:t.s=[85,110,105,116]
    ·simp(disch:=omega)[e0,q1,q2,q3,q4]
     exact no fun h=>(key.1 h).2.2 (.inl ⟨by rw [e0];rfl,.inr (.inr (.inr q4))⟩)
    have hb: ¬Zrl t:=by
     rintro (⟨_,h|h|h|h⟩|⟨h,_⟩)
     ·exact q1 h
     ·exact q2 h
     ·exact q3 h
     ·exact q4 h
     ·rw [e0] at h;cases h
    simp(disch:=omega)[e0,q1,q2,q3,q4]
    refine Zat H ?_
    by_cases hN:NmP t.s<;>first|(rw [Zah hN];simp(disch:=omega))|(rw [Zaf hN];simp(disch:=omega))
    ·exact yes (key.2 ⟨by rw [e0];simp,hN,hb⟩)
    ·exact no fun h=>hN (key.1 h).2.1
   ·have e0':0<t.a.length:=List.length_pos_iff.2 e0
    have hb:Zrl t↔t.a.length=1/\(t.s=nArr∨t.s=ZxU):=⟨fun h=>h.resolve_left fun h=>by omega,.inr⟩
    rw [hb] at key
    simp(disch:=omega)[e0]
    by_cases e1:t.a.length=1
    ·by_cases e2:t.s=[65,114,114,97,121]
     ·simp(disch:=omega)[e1,e2]
      exact no fun h=>(key.1 h).2.2 ⟨e1,.inl e2⟩
     ·by_cases e3:t.s=[87,101,97,107]
      ·simp(disch:=omega)[e1,e2,e3]
       exact no fun h=>(key.1 h).2.2 ⟨e1,.inr e3⟩
      ·simp(disch:=omega)[e1,e2,e3]
       refine Zat H ?_
       by_cases hN:NmP t.s<;>first|(rw [Zah hN];simp(disch:=omega))|(rw [Zaf hN];simp(disch:=omega))
       ·exact yes (key.2 ⟨by omega,hN,by rintro ⟨_,h|h⟩;exact e2 h;exact e3 h⟩)
       ·exact no fun h=>hN (key.1 h).2.1
    ·simp(disch:=omega)[e1]
     by_cases e4:t.a.length<=3
     ·simp(disch:=omega)[e4]
      refine Zat H ?_
      by_cases hN:NmP t.s<;>first|(rw [Zah hN];simp(disch:=omega))|(rw [Zaf hN];simp(disch:=omega))
      ·exact yes (key.2 ⟨by omega,hN,fun h=>e1 h.1⟩)
      ·exact no fun h=>hN (key.1 h).2.1
     ·simp(disch:=omega)[e4]
      exact no fun h=>e4 (key.1 h).1
  by_cases h4:t.k=7∨t.k=9
  ·have key:ShP o t↔t.a.length=0/\NmP t.s:=by unfold ShP;rw [if_neg h12,if_neg h1,if_neg h2,if_neg h3,if_pos h4];simp [hn]
   rcases h4 with h1|h1<;>simp(disch:=omega)[h1,hn]<;>(repeat' (first|(refine yes (key.2 ?_);solve|simp_all|omega|(simp_all;omega))|(refine no (fun h=>?_);have:=key.1 h;solve|simp_all|omega|(simp_all;omega))|(refine Za4 (fun h=>?_) (fun h=>?_)<;>(simp only [Zx3] at h;simp(disch:=omega)[h]))|(refine Za6 (fun h=>?_) (fun h=>?_)<;>(simp only [Zx3] at h;simp(disch:=omega)[h]))|refine Qd (fun h=>?_) (fun h=>?_)|(refine ZaD H ?_;by_cases hN:NmP t.s<;>first|(rw [Zah hN];simp(disch:=omega))|(rw [Zaf hN];simp(disch:=omega)))|(refine Zat H ?_;by_cases hN:NmP t.s<;>first|(rw [Zah hN];simp(disch:=omega))|(rw [Zaf hN];simp(disch:=omega)))))
  by_cases h5:t.k=8
  ·have key:ShP o t↔t.a.length=1/\NmP t.s/\ ∀u,t.a[0]? =some u->u.k≠10/\u.k≠9:=by unfold ShP;rw [if_neg h12,if_neg h1,if_neg h2,if_neg h3,if_neg h4,if_pos h5];simp [hn]
   simp(disch:=omega)[h5,hn]
   by_cases h:(t.a.length:Int)=1
   ·have r1:=Ty.encs_get (l:=t.a) (j:=0) Zo
    have r2:t.a[0]? =some (t.a[0]'(by omega)):=Ya _
    rw [r2] at key
    simp only [Ye,forall_eq'] at key
    by_cases e1:t.a[0].k=10
    ·simp(disch:=omega)[h,r1,e1]
     (repeat' (first|(refine yes (key.2 ?_);solve|simp_all|omega|(simp_all;omega))|(refine no (fun h=>?_);have:=key.1 h;solve|simp_all|omega|(simp_all;omega))|(refine Za4 (fun h=>?_) (fun h=>?_)<;>(simp only [Zx3] at h;simp(disch:=omega)[h]))|(refine Za6 (fun h=>?_) (fun h=>?_)<;>(simp only [Zx3] at h;simp(disch:=omega)[h]))|refine Qd (fun h=>?_) (fun h=>?_)|(refine ZaD H ?_;by_cases hN:NmP t.s<;>first|(rw [Zah hN];simp(disch:=omega))|(rw [Zaf hN];simp(disch:=omega)))|(refine Zat H ?_;by_cases hN:NmP t.s<;>first|(rw [Zah hN];simp(disch:=omega))|(rw [Zaf hN];simp(disch:=omega)))))
    by_cases e2:t.a[0].k=9
    ·simp(disch:=omega)[h,r1,e1,e2]
     (repeat' (first|(refine yes (key.2 ?_);solve|simp_all|omega|(simp_all;omega))|(refine no (fun h=>?_);have:=key.1 h;solve|simp_all|omega|(simp_all;omega))|(refine Za4 (fun h=>?_) (fun h=>?_)<;>(simp only [Zx3] at h;simp(disch:=omega)[h]))|(refine Za6 (fun h=>?_) (fun h=>?_)<;>(simp only [Zx3] at h;simp(disch:=omega)[h]))|refine Qd (fun h=>?_) (fun h=>?_)|(refine ZaD H ?_;by_cases hN:NmP t.s<;>first|(rw [Zah hN];simp(disch:=omega))|(rw [Zaf hN];simp(disch:=omega)))|(refine Zat H ?_;by_cases hN:NmP t.s<;>first|(rw [Zah hN];simp(disch:=omega))|(rw [Zaf hN];simp(disch:=omega)))))
    simp(disch:=omega)[h,r1,e1,e2]
    refine Zat H ?_
    by_cases hN:NmP t.s<;>first|(rw [Zah hN];simp(disch:=omega))|(rw [Zaf hN];simp(disch:=omega))
    all_goals (repeat' (first|(refine yes (key.2 ?_);solve|simp_all|omega|(simp_all;omega))|(refine no (fun h=>?_);have:=key.1 h;solve|simp_all|omega|(simp_all;omega))|(refine Za4 (fun h=>?_) (fun h=>?_)<;>(simp only [Zx3] at h;simp(disch:=omega)[h]))|(refine Za6 (fun h=>?_) (fun h=>?_)<;>(simp only [Zx3] at h;simp(disch:=omega)[h]))|refine Qd (fun h=>?_) (fun h=>?_)|(refine ZaD H ?_;by_cases hN:NmP t.s<;>first|(rw [Zah hN];simp(disch:=omega))|(rw [Zaf hN];simp(disch:=omega)))|(refine Zat H ?_;by_cases hN:NmP t.s<;>first|(rw [Zah hN];simp(disch:=omega))|(rw [Zaf hN];simp(disch:=omega)))))
   ·simp(disch:=omega)[h]
    (repeat' (first|(refine yes (key.2 ?_);solve|simp_all|omega|(simp_all;omega))|(refine no (fun h=>?_);have:=key.1 h;solve|simp_all|omega|(simp_all;omega))|(refine Za4 (fun h=>?_) (fun h=>?_)<;>(simp only [Zx3] at h;simp(disch:=omega)[h]))|(refine Za6 (fun h=>?_) (fun h=>?_)<;>(simp only [Zx3] at h;simp(disch:=omega)[h]))|refine Qd (fun h=>?_) (fun h=>?_)|(refine ZaD H ?_;by_cases hN:NmP t.s<;>first|(rw [Zah hN];simp(disch:=omega))|(rw [Zaf hN];simp(disch:=omega)))|(refine Zat H ?_;by_cases hN:NmP t.s<;>first|(rw [Zah hN];simp(disch:=omega))|(rw [Zaf hN];simp(disch:=omega)))))
  by_cases h6:t.k=10
  ·have key:ShP o t↔1<=t.a.length/\t.a.length<=7/\t.s=[]:=by unfold ShP;rw [if_neg h12,if_neg h1,if_neg h2,if_neg h3,if_neg h4,if_neg h5,if_pos h6];simp [hn]
   simp(disch:=omega)[h6,hn]
   (repeat' (first|(refine yes (key.2 ?_);solve|simp_all|omega|(simp_all;omega))|(refine no (fun h=>?_);have:=key.1 h;solve|simp_all|omega|(simp_all;omega))|(refine Za4 (fun h=>?_) (fun h=>?_)<;>(simp only [Zx3] at h;simp(disch:=omega)[h]))|(refine Za6 (fun h=>?_) (fun h=>?_)<;>(simp only [Zx3] at h;simp(disch:=omega)[h]))|refine Qd (fun h=>?_) (fun h=>?_)|(refine ZaD H ?_;by_cases hN:NmP t.s<;>first|(rw [Zah hN];simp(disch:=omega))|(rw [Zaf hN];simp(disch:=omega)))|(refine Zat H ?_;by_cases hN:NmP t.s<;>first|(rw [Zah hN];simp(disch:=omega))|(rw [Zaf hN];simp(disch:=omega)))))
  ·have key: ¬ShP o t:=by unfold ShP;rw [if_neg h12,if_neg h1,if_neg h2,if_neg h3,if_neg h4,if_neg h5,if_neg h6];simp
   simp only [not_or] at h1 h2 h4
   simp(disch:=omega)[h12,hn,h1,h2,h3,h4,h5,h6]
   exact no key
mutual
def Ty.all (p:Ty->Prop):Ty->Prop
 | .mk k s n a=>p (.mk k s n a)/\Ty.alls p a
def Ty.alls (p:Ty->Prop):List Ty->Prop
 | []=>True
 | t::l=>t.all p/\Ty.alls p l
end
def Ty.all_eq {p:Ty->Prop} {t:Ty}:t.all p↔p t/\Ty.alls p t.a:=by cases t;exact Iff.rfl
def Ty.alls_iff {p:Ty->Prop}: ∀{l:List Ty},Ty.alls p l↔ ∀t∈l,t.all p
 | []=>by simp [Ty.alls]
 | t::l=>by simp [Ty.alls,Ty.alls_iff (l:=l)]
def ZqT (H:Has S) {o:Bool}: ∀(nn:Nat) (t:Ty) (Q:List A->List (List C)->Prop),t.sz<nn->t.fw->Q [pb (dq (t.all (ShP o)))] []->Gives S ZgU [.agg t.cs,pb o] [] Q
 | 0=>fun _ _ h=>absurd h (YI _)
 | nn+1=>by
   intro t Q hm ht hQ
   have ih:=ZqT H (o:=o) nn
   have g5:=Ty.fw_len ht
   have g6:(Ty.encs t.a).length=t.a.length:=Ty.encs_length
   have g7:=Ty.sz_a (t:=t)
   refine .code H.Zw7 rfl ?_
   simp(disch:=omega)[ZkT]
   refine ZxV H ht ?_
   by_cases h0:ShP o t
   · rw [Zah h0]
     simp(disch:=omega)
     refine Lp.rule (fun (j:Nat)=>[(1,.a (pb o)),(2,.a (.one (.ref ⟨true,10002,0⟩))),(5,.a (pi j)),(9999,.objs []),(10002,.a (.agg t.cs))]) (fun j=>j<=t.a.length/\ ∀u∈t.a.take j,u.all (ShP o)) (fun j=>t.a.length-j) (a₀:=0) Zs ⟨Yd _,by simp⟩ ?_
     rintro j ⟨k1,k2⟩
     by_cases hj:j<t.a.length
     · have e:=Ty.encs_get (l:=t.a) (j:=j) Zo
       have q2:=Ty.szs_get hj
       simp(disch:=omega)[e]
       refine ih _ _ Zo (Ty.fws_get (Ty.fw_a ht) hj) ?_
       by_cases h1:t.a[j].all (ShP o)
       · rw [Zah h1]
         simp(disch:=omega)
         exact RdN.mk (j+1) Zs ⟨hj,ZcJ hj k2 h1⟩ Zo
       · rw [Zaf h1]
         rw [Zaf fun h=>h1 (Ty.alls_iff.1 (Ty.all_eq.1 h).2 _ (Yl hj))] at hQ
         simp(disch:=omega)
         exact hQ
     · rw [Zah (Ty.all_eq.2 ⟨h0,Ty.alls_iff.2 (ZcN k2 Zo)⟩)] at hQ
       simp(disch:=omega)
       exact hQ
   · rw [Zaf h0]
     rw [Zaf fun h=>h0 (Ty.all_eq.1 h).1] at hQ
     simp(disch:=omega)
     exact hQ
def ZsE (H:Has S) {mo:Int} (m0:0<=mo) (m1:mo<=100000): ∀(nn:Nat) (t:Ty) (Q:List A->List (List C)->Prop),t.sz<nn->t.fw->(∀x:Int,(x<=mo↔(t.sz:Int)<=mo)->1<=x->x<=mo+1->(x<=mo->(t.sz:Int)=x)->Q [pi x] [])->Gives S Zbm [.agg t.cs,pi mo] [] Q
 | 0=>fun _ _ h=>absurd h (YI _)
 | nn+1=>by
   intro t Q hm ht hQ
   have ih:=ZsE H m0 m1 nn
   have g5:=Ty.fw_len ht
   have g6:(Ty.encs t.a).length=t.a.length:=Ty.encs_length
   have g7:=Ty.sz_eq (t:=t)
   refine .code H.Zmy rfl ?_
   simp(disch:=omega)[ZdW]
   refine Lp.rule (fun (b:Int×Nat)=>[(1,.a (pi mo)),(2,.a (.one (.ref ⟨true,10002,0⟩))),(5,.a (pi b.1)),(6,.a (pi b.2)),(9999,.objs []),(10002,.a (.agg t.cs))]) (fun b=>b.2<=t.a.length/\1<=b.1/\b.1<=2*mo+1/\(b.1<=mo->1+(Ty.szs (t.a.take b.2):Int)=b.1)/\(mo<b.1->mo<1+(Ty.szs (t.a.take b.2):Int))) (fun b=>t.a.length-b.2) (a₀:=(1,0)) Zs ⟨Yd _,by simp,by dsimp only;omega,by simp [Ty.szs],by simp [Ty.szs]⟩ ?_
   rintro ⟨c,j⟩ ⟨k1,k2,k3,k4,k5⟩
   dsimp only at k1 k2 k3 k4 k5
   have q4:=Ty.szs_take_le (l:=t.a) (j:=j)
   by_cases hj:j<t.a.length
   · have e:=Ty.encs_get (l:=t.a) (j:=j) Zo
     have q:=Ty.fws_get (Ty.fw_a ht) hj
     have q2:=Ty.szs_get hj
     have q3:=Ty.szs_take hj
     by_cases hc:c<=mo
     · have k6:=k4 hc
       simp(disch:=omega)[e,hc]
       refine ih _ _ Zo q fun x x0 x1 x2 x3=>?_
       simp(disch:=omega)
       refine RdN.mk (_,j+1) rfl ⟨hj,by dsimp only;omega,by dsimp only;omega,fun h=>?_,fun h=>?_⟩ Zm
       all_goals
         dsimp only at h⊢
         rw [q3]
         by_cases hx:x<=mo
         · have:=x3 hx;omega
         · have: ¬(t.a[j].sz:Int)<=mo:=fun h=>hx (x0.2 h)
           omega
     · have k6:=k5 Zo
       simp(disch:=omega)[hc]
       refine hQ _ ⟨fun h=>by omega,fun h=>by omega⟩ Zo Zo Zo
   · have k6:t.a.take j=t.a:=Yg Zo
     rw [k6] at k4 k5
     simp(disch:=omega)
     refine hQ _ ⟨fun h=>?_,fun h=>?_⟩ Zo Zo fun h=>?_
     · have:=k4 Zo;omega
     · rcases Int.lt_or_le mo c with h'|h'
       · have:=k5 h';omega
       · omega
     · have:=k4 Zo;omega
def Zxs (H:Has S) {t:Ty} (ht:t.fw) (hQ:Q [pb (dq (t.sz<=40/\t.all (ShP true)))] []):Gives S Zje [.agg t.cs] [] Q:=by
 refine .code H.ZxG rfl ?_
 simp(disch:=omega)[Zkz]
 refine ZsE H Zd Zd _ t _ (Yz _) ht fun x x0 x1 x2 x3=>?_
 by_cases hx:x<=40
 ·have h40:t.sz<=40:=by have:=x0.1 hx;omega
  simp(disch:=omega)[hx]
  refine ZqT H _ t _ (Yz _) ht ?_
  simp(disch:=omega)
  rwa [Zjq (show (t.sz<=40/\t.all (ShP true))↔t.all (ShP true) from ⟨fun h=>h.2,fun h=>⟨h40,h⟩⟩)] at hQ
 ·simp(disch:=omega)[hx]
  rwa [Zaf fun h=>hx (x0.2 Zo)] at hQ
end Go.Am.Fe
end
section
namespace Go.Am.Fe
variable {S:Nat->Option Fn} {Q:List A->List (List C)->Prop}
attribute [local simp] Zfa if_pos if_neg decide_eq_true decide_eq_false Yi Yj Zmo Ops.callv List.idxOf?_cons Ty.encs_length Zcs
mutual
def Ty.each {σ:Type} (f:σ->Ty->σ×Bool):σ->Ty->σ×Bool
  | s,.mk k x n a=>match f s (.mk k x n a) with
    | (s',true)=>Ty.eachs f s' a
    | (s',false)=>(s',false)
def Ty.eachs {σ:Type} (f:σ->Ty->σ×Bool):σ->List Ty->σ×Bool
  | s,[]=>(s,true)
  | s,t::l=>match Ty.each f s t with
    | (s',true)=>Ty.eachs f s' l
    | (s',false)=>(s',false)
end
theorem Ty.each_eq {σ:Type} {f:σ->Ty->σ×Bool} {s:σ} {t:Ty}:t.each f s=match f s t with
 | (s',true)=>Ty.eachs f s' t.a
 | (s',false)=>(s',false):=by cases t;rfl
abbrev rF (n:Nat):C:= .ref ⟨false,n,0⟩
abbrev ZtJ (c:Bool) (l:Int):List (List C):=[[.p (.bool c)],[.p (.int .i64 l)],[.clo Zbe [] [⟨false,1,0⟩,⟨false,0,0⟩]],[.clo Za0 [] [⟨false,2,0⟩,⟨false,3,0⟩]]]
noncomputable def Zdt (c:Bool) (l:Int) (t:Ty):Int×Bool:=(l-1,dq (0<=l-1/\ShP c t))
def Zt5 (H:Has S) {c:Bool} {l:Int} {t:Ty} (h1: -1000<=l) (h2:l<=1000) (ht:t.fw) (hQ:Q [pb (Zdt c l t).2] (ZtJ c (Zdt c l t).1)):
  Gives S Zbe [.agg t.cs,.one (rF 1),.one (rF 0)] (ZtJ c l) Q:=by
 refine .code H.ZjZ rfl ?_
 simp(disch:=omega)[ZcQ]
 unfold Zdt at hQ
 by_cases h0:0<=l-1
 ·simp(disch:=omega)[h0]
  refine ZsV H ht ?_
  simp(disch:=omega)
  rwa [Zjq (show (0<=l-1/\ShP c t)↔ShP c t from ⟨fun h=>h.2,fun h=>⟨h0,h⟩⟩)] at hQ
 ·rw [Zaf fun h=>h0 h.1] at hQ
  simp(disch:=omega)[h0]
  exact hQ
mutual
theorem eachR_spec {c:Bool}: ∀(t:Ty) (l:Int),((t.each (Zdt c) l).2=true↔(t.sz:Int)<=l/\t.all (ShP c))/\((t.each (Zdt c) l).2=true->(t.each (Zdt c) l).1=l-t.sz)
  | .mk k s n a,l=>by
    have h:=eachsR_spec (c:=c) a (l-1)
    rw [Ty.each_eq]
    by_cases h0:0<=l-1/\ShP c (.mk k s n a)
    · rw [show Zdt c l (.mk k s n a)=(l-1,true) by unfold Zdt;rw [Zah h0]]
      dsimp only
      simp only [Ty.a,Ty.all,Ty.sz]
      refine ⟨h.1.trans ⟨fun q=>⟨?_,h0.2,q.2⟩,fun q=>⟨.inl Zo,q.2.2⟩⟩,fun q=>by rw [h.2 q];omega⟩
      rcases q.1 with q1|q1
      · omega
      · subst q1;have:=h0.1;simp [Ty.szs];omega
    · rw [show Zdt c l (.mk k s n a)=(l-1,false) by unfold Zdt;rw [Zaf h0]]
      exact ⟨⟨fun q=>(nomatch (show false=true from q)),fun q=>absurd ⟨by have:=q.1;simp only [Ty.sz] at this;omega,(show ShP c (.mk k s n a)/\Ty.alls (ShP c) a from q.2).1⟩ h0⟩,fun q=>nomatch (show false=true from q)⟩
theorem eachsR_spec {c:Bool}: ∀(ts:List Ty) (l:Int),((Ty.eachs (Zdt c) l ts).2=true↔((Ty.szs ts:Int)<=l∨ts=[])/\Ty.alls (ShP c) ts)/\((Ty.eachs (Zdt c) l ts).2=true->(Ty.eachs (Zdt c) l ts).1=l-Ty.szs ts)
  | [],l=>by simp [Ty.eachs,Ty.szs,Ty.alls]
  | t::ts,l=>by
    have h:=eachR_spec (c:=c) t l
    have h2:=eachsR_spec (c:=c) ts (t.each (Zdt c) l).1
    rw [Ty.eachs]
    cases hb:(t.each (Zdt c) l).2 with
    | true=>
      rw [show t.each (Zdt c) l=((t.each (Zdt c) l).1,true) by rw [<-hb]]
      have e:=h.2 hb
      have f:=h.1.1 hb
      rw [e] at h2⊢
      dsimp only
      simp only [Ty.alls,Ty.szs]
      refine ⟨h2.1.trans ⟨fun q=>⟨.inl ?_,f.2,q.2⟩,fun q=>⟨.inl ?_,q.2.2⟩⟩,fun q=>by rw [h2.2 q];omega⟩
      · rcases q.1 with q1|q1
        · omega
        · subst q1;have:=f.1;simp [Ty.szs];omega
      · rcases q.1 with q1|q1
        · omega
        · cases q1
    | false=>
      rw [show t.each (Zdt c) l=((t.each (Zdt c) l).1,false) by rw [<-hb]]
      refine ⟨⟨fun q=>(nomatch (show false=true from q)),fun q=>?_⟩,fun q=>nomatch (show false=true from q)⟩
      rcases q.1 with q1|q1
      · simp only [Ty.szs] at q1
        have:=h.1.2 ⟨by omega,(show t.all (ShP c)/\Ty.alls (ShP c) ts from q.2).1⟩
        rw [hb] at this;cases this
      · cases q1
end
def ZpA {c:Bool} {t:Ty} {l:Int} (h:(t.each (Zdt c) l).2=true) (_:0<=l):0<=(t.each (Zdt c) l).1/\(t.each (Zdt c) l).1<=l:=by
 have h1:=eachR_spec (c:=c) t l
 rw [h1.2 h]
 have:=(h1.1.1 h).1
 omega
def Zl6 (H:Has S) {c:Bool}: ∀(nn:Nat) (t:Ty) (l:Int) (Q:List A->List (List C)->Prop),t.sz<nn->t.fw->0<=l->l<=1000->Q [pb (t.each (Zdt c) l).2] (ZtJ c (t.each (Zdt c) l).1)->
   Gives S Za0 [.agg t.cs,.one (rF 2),.one (rF 3)] (ZtJ c l) Q
 | 0=>fun _ _ _ h=>absurd h (YI _)
 | nn+1=>by
   intro t l Q hm ht h1 h2 hQ
   have ih:=Zl6 H (c:=c) nn
   have g5:=Ty.fw_len ht
   have g6:(Ty.encs t.a).length=t.a.length:=Ty.encs_length
   have g7:=Ty.sz_a (t:=t)
   refine .code H.Zg3 rfl ?_
   simp(disch:=omega)[Zb5,cloR]
   refine Zt5 H Zo Zo ht ?_
   rw [Ty.each_eq] at hQ
   cases hb:(Zdt c l t).2 with
   | false=>
     rw [show Zdt c l t=((Zdt c l t).1,false) by rw [<-hb]] at hQ
     simp(disch:=omega)[cloR]
     exact hQ
   | true=>
     rw [show Zdt c l t=((Zdt c l t).1,true) by rw [<-hb]] at hQ
     have hl0:(Zdt c l t).1=l-1:=rfl
     have hb0:0<=l-1:=(ZqW.1 hb).1
     rw [hl0] at hQ⊢
     dsimp only at hQ
     simp(disch:=omega)[cloR]
     refine Lp.rule (fun (b:Int×Nat)=>[(2,.a (.one (rF 3))),(12,.a (.one (.p (.sl 4 (Ty.encs t.a))))),(13,.a (pi t.a.length)),(14,.a (pi b.2)),(9999,.objs (ZtJ c b.1))]) (fun b=>b.2<=t.a.length/\0<=b.1/\b.1<=1000/\Ty.eachs (Zdt c) b.1 (t.a.drop b.2)=Ty.eachs (Zdt c) (l-1) t.a) (fun b=>t.a.length-b.2) (a₀:=(l-1,0)) Zs ⟨Yd _,hb0,by dsimp only;omega,by simp⟩ ?_
     rintro ⟨m,j⟩ ⟨k1,k2,k3,k4⟩
     dsimp only at k1 k2 k3 k4
     by_cases hj:j<t.a.length
     · have e:=Ty.encs_get (l:=t.a) (j:=j) Zo
       have q:=Ty.fws_get (Ty.fw_a ht) hj
       have q2:=Ty.szs_get hj
       have q3:t.a.drop j=t.a[j]::t.a.drop (j+1):=List.drop_eq_getElem_cons hj
       rw [q3,Ty.eachs] at k4
       simp(disch:=omega)[e,cloR]
       refine ih _ _ _ Zo q k2 k3 ?_
       cases hb1:(t.a[j].each (Zdt c) m).2 with
       | false=>
         rw [show t.a[j].each (Zdt c) m=((t.a[j].each (Zdt c) m).1,false) by rw [<-hb1]] at k4
         dsimp only at k4
         rw [<-k4] at hQ
         simp(disch:=omega)[cloR]
         exact hQ
       | true=>
         rw [show t.a[j].each (Zdt c) m=((t.a[j].each (Zdt c) m).1,true) by rw [<-hb1]] at k4
         simp(disch:=omega)[cloR]
         have hp:=ZpA hb1 k2
         exact RdN.mk ((t.a[j].each (Zdt c) m).1,j+1) rfl ⟨hj,hp.1,Int.le_trans hp.2 k3,k4⟩ Zm
     · rw [List.drop_eq_nil_of_le Zo,Ty.eachs] at k4
       rw [<-k4] at hQ
       simp(disch:=omega)[cloR]
       exact hQ
def ZuF (H:Has S) {t:Ty} {c:Bool} (ht:t.fw) (hQ:Q [pb (dq (t.sz<=40/\t.all (ShP c)))] []):Gives S ZcG [.agg t.cs,pb c] [] Q:=by
 refine .code H.ZmF rfl ?_
 simp(disch:=omega)[ZdR,cloR]
 refine .code H.Zjz rfl ?_
 simp(disch:=omega)[Zdd,cloR]
 refine Zl6 H _ t 40 _ (Yz _) ht Zd Zd ?_
 have e:(t.each (Zdt c) 40).2=dq (t.sz<=40/\t.all (ShP c)):=(Zy8 ((eachR_spec t 40).1.trans ⟨fun h=>⟨by omega,h.2⟩,fun h=>⟨by omega,h.2⟩⟩)).symm
 rw [e]
 simp(disch:=omega)[cloR]
 exact hQ
def ZvH (H:Has S) {t:Ty} (ht:t.fw) (hQ:Q [pb (dq (t.sz<=40/\t.all (ShP true)))] []):Gives S Zel [.agg t.cs] [] Q:=by
 refine .code H.ZpW rfl ?_
 simp(disch:=omega)[ZfD]
 refine ZuF H ht ?_
 simp(disch:=omega)
 exact hQ
end Go.Am.Fe
end
section
namespace Go.Am.Fe
variable {S:Nat->Option Fn} {Q:List A->List (List C)->Prop}
attribute [local simp] Zfa if_pos if_neg decide_eq_true decide_eq_false Yi Yj Zmo Ops.callv List.idxOf?_cons Ty.encs_length Zcs
def ints (l:List Int):List (List P):=l.map fun x=>[.int .i64 x]
def ZaK {l:List Int}:(ints l).length=l.length:=by simp [ints]
def ZfI {l:List Int} {j:Nat} (h:j<(ints l).length):(ints l)[j]=[.int .i64 (l[j]'(by simpa [ints] using h))]:=by simp [ints]
def ZiC {l:List Int} {x:Int}:ints (l++[x])=ints l++[[.int .i64 x]]:=by simp [ints]
attribute [local simp] ZaK
structure HM (S:Nat->Option Fn):Prop extends Has S where
 cmp: ∀{Q:List A->List (List C)->Prop} (a b:List Nat),Q [pi (cmpN a b)] []->Gives S ZbC [ps a,ps b] [] Q
 dis: ∀{Q:List A->List (List C)->Prop} (l:List Int),l.length<=100000->(∀r:List Int,r.length<=l.length->(∀x,x∈r↔x∈l)->Q [.one (.uniq 1 (ints r))] [])->Gives S ZcC [.one (.uniq 1 (ints l))] [] Q
 clo: ∀{Q:List A->List (List C)->Prop} {l:List (List P)},l.length<=2147483648->Q [.one (.tip 10 l)] []->Gives S ZaR [.one (.p (.sl 10 l))] [] Q
mutual
def Ty.nums:Ty->List Int
 | .mk k _ n a=>(if k=12 then [n] else [])++Ty.numss a
def Ty.numss:List Ty->List Int
 | []=>[]
 | t::l=>t.nums++Ty.numss l
end
def Ty.nums_eq {t:Ty}:t.nums=(if t.k=12 then [t.n] else [])++Ty.numss t.a:=by cases t;rfl
mutual
def Ty.nums_len: ∀t:Ty,t.nums.length<=t.sz
  | .mk k s n a=>by
    have:=Ty.numss_len a
    simp only [Ty.nums,Ty.sz,YF]
    split<;>simp<;>omega
def Ty.numss_len: ∀l:List Ty,(Ty.numss l).length<=Ty.szs l
  | []=>by simp [Ty.numss]
  | t::l=>by
    have:=Ty.nums_len t
    have:=Ty.numss_len l
    simp only [Ty.numss,Ty.szs,YF];omega
end
def Ty.numss_take {l:List Ty} {j:Nat} (h:j<l.length):Ty.numss (l.take (j+1))=Ty.numss (l.take j)++l[j].nums:=by
 induction l generalizing j with
 | nil=>simp at h
 | cons t l ih=>cases j with
   | zero=>simp [Ty.numss]
   | succ j=>simp only [List.take_succ_cons,Ty.numss,List.getElem_cons_succ];rw [ih (by simpa using h),Yu]
abbrev Zs7 (s:List Int):List (List C):=[[.uniq 1 (ints s)],[.clo ZbO [] [⟨false,0,0⟩]],[.clo Za0 [] [⟨false,1,0⟩,⟨false,2,0⟩]]]
def Zu8 (H:Has S) {s:List Int} {t:Ty} (h1:s.length<=1000) (hQ:Q [pb true] (Zs7 (s++if t.k=12 then [t.n] else []))):
  Gives S ZbO [.agg t.cs,.one (rF 0)] (Zs7 s) Q:=by
 refine .code H.ZmS rfl ?_
 simp(disch:=omega)[ZdH]
 by_cases hk:t.k=12
 ·simp(disch:=omega)[hk] at hQ⊢
  rwa [Zs7,ZiC] at hQ
 ·simp(disch:=omega)[hk] at hQ⊢
  exact hQ
def Zl8 (H:Has S): ∀(nn:Nat) (t:Ty) (s:List Int) (Q:List A->List (List C)->Prop),t.sz<nn->t.fw->s.length+t.sz<=1000->Q [pb true] (Zs7 (s++t.nums))->
   Gives S Za0 [.agg t.cs,.one (rF 1),.one (rF 2)] (Zs7 s) Q
 | 0=>fun _ _ _ h=>absurd h (YI _)
 | nn+1=>by
   intro t s Q hm ht h1 hQ
   have ih:=Zl8 H nn
   have g5:=Ty.fw_len ht
   have g6:(Ty.encs t.a).length=t.a.length:=Ty.encs_length
   have g7:=Ty.sz_eq (t:=t)
   refine .code H.Zg3 rfl ?_
   simp(disch:=omega)[Zb5,cloR]
   refine Zu8 H Zo ?_
   generalize hs0:(s++if t.k=12 then [t.n] else [])=s0
   have hl0:s0.length<=s.length+1:=by rw [<-hs0];split<;>simp
   have hQ:Q [pb true] (Zs7 (s0++Ty.numss t.a)):=by rwa [Ty.nums_eq,<-Yu,hs0] at hQ
   simp(disch:=omega)[cloR]
   refine Lp.rule (fun (j:Nat)=>[(2,.a (.one (rF 2))),(12,.a (.one (.p (.sl 4 (Ty.encs t.a))))),(13,.a (pi t.a.length)),(14,.a (pi j)),(9999,.objs (Zs7 (s0++Ty.numss (t.a.take j))))]) (fun j=>j<=t.a.length) (fun j=>t.a.length-j) (a₀:=0) (by simp [Ty.numss]) (Yd _) ?_
   intro j k1
   have q4:=Ty.szs_take_le (l:=t.a) (j:=j)
   have q5:=Ty.numss_len (t.a.take j)
   by_cases hj:j<t.a.length
   · have e:=Ty.encs_get (l:=t.a) (j:=j) Zo
     have q:=Ty.fws_get (Ty.fw_a ht) hj
     have q2:=Ty.szs_get hj
     have q3:=Ty.szs_take hj
     have q6:=Ty.szs_take_le (l:=t.a) (j:=j+1)
     simp(disch:=omega)[e,cloR]
     refine ih _ _ _ Zo q (by simp only [YF];omega) ?_
     simp(disch:=omega)[cloR]
     exact RdN.mk (j+1) (by rw [Ty.numss_take hj];simp) hj Zo
   · rw [Yg Zo]
     simp(disch:=omega)[cloR]
     exact hQ
def ZxM (H:HM S) {t:Ty} (ht:t.fw) (h1:t.sz<=100) (hQ: ∀r:List Int,r.length<=100->(∀x,x∈r↔x∈t.nums)->Q [.one (.p (.sl 1 (ints r)))] []):Gives S Zd8 [.agg t.cs] [] Q:=by
 refine .code H.Zpl rfl ?_
 simp(disch:=omega)[ZfC,cloR]
 refine .code H.Zjz rfl ?_
 simp(disch:=omega)[Zdd,cloR]
 refine Zl8 H.toHas _ t [] _ (Yz _) ht Ze ?_
 have hl:=Ty.nums_len t
 simp(disch:=omega)[cloR]
 refine H.dis _ Zo fun r r1 r2=>?_
 simp(disch:=omega)
 exact hQ r Zo r2
def NewOf (a b c:List Int):Prop:=(∀x,x∈c↔x∈a∨x∈b)/\c.length<=a.length+b.length
def Zfr (l:List Int):List C:=l.map fun x=> .p (.int .i64 x)
@[local simp] def Zhp {l:List Int}:(Zfr l).length=l.length:=by simp [Zfr]
def Zmd: ∀{l:List Int},(ints l).flatten.map C.p=Zfr l
 | []=>rfl
 | x::l=>by
   have:=Zmd (l:=l)
   unfold ints Zfr at this⊢
   simp [this]
def ZcA {k κ:Nat} {e:Env} {l:List Int} (h:0<l.length):Zqi k 0 κ 1 e (.a (.one (.uniq 1 (ints l))))=(κ,.a (.agg (Zfr l)))::(k,.a (.one (.own ⟨true,κ,0⟩ 1 l.length)))::e:=by
 rw [Zqg (by simpa using h) Zd,Zmd,ZaK]
def Zjt: ∀{l:List Int},toPs (Zfr l)=some (l.map fun x=> .int .i64 x)
 | []=>rfl
 | x::l=>by
   have:=Zjt (l:=l)
   unfold Zfr at this⊢
   simp [toPs,this]
def ZjN: ∀{l:List Int},Znf 1 l.length (l.map fun x=>P.int .i64 x)=ints l
 | []=>rfl
 | x::l=>by
   have:=ZjN (l:=l)
   simp [Znf,this,ints]
def ZcF {k κ:Nat} {e:Env} {l:List Int}:Zq7 k 0 κ 1 e (.a (.one (.own ⟨true,κ,0⟩ 1 l.length))) (.a (.agg (Zfr l)))=(k,.a (.one (.uniq 1 (ints l))))::(κ,.undef)::e:=by
 have h:(Zfr l).take l.length=Zfr l:=Yg Zs
 rw [ZpN Zs,Nat.mul_one,h,Zjt,Zn4,ZjN]
def Zoe {l:List Int}:Zke (Zfr l)=false:=by
 cases l with
 | nil=>rfl
 | cons x l=>cases l<;>rfl
def ZbH {l:List Int}:List.map C.plain (Zfr l)=Zfr l:=by simp [Zfr]
def Zcl {α:Type} {l:List Int} {x:Option α}:notM (Zfr l) x=x:=by unfold notM;rw [Zoe]
def ZbD {l:List Int} {j:Nat} (h:j<l.length):List.take 1 (List.drop j (Zfr l))=[.p (.int .i64 l[j])]:=by
 simp [Zfr,List.take_one,List.head?_drop,h]
def NewOf.nil {a:List Int}:NewOf a [] a:=⟨fun x=>by simp,by simp⟩
def NewOf.trans {a b c d e:List Int} (h:NewOf a b d) (h':NewOf d c e):NewOf a (b++c) e:=⟨fun x=>by rw [h'.1,h.1,Ys,or_assoc],by have:=h.2;have:=h'.2;simp;omega⟩
theorem Zh0 (H:Has S): ∀(nn:Nat) (t:Ty) (s:List Int) (Q:List A->List (List C)->Prop),t.sz<nn->t.fw->s.length+t.sz<=1000->(∀r,NewOf s t.nums r->Q [.one (.uniq 1 (ints r))] [])->
   Gives S Zcm [.agg t.cs,.one (.uniq 1 (ints s))] [] Q
 | 0=>fun _ _ _ h=>absurd h (YI _)
 | nn+1=>by
   intro t s Q hm ht h1 hQ
   have ih:=Zh0 H nn
   have g5:=Ty.fw_len ht
   have g6:(Ty.encs t.a).length=t.a.length:=Ty.encs_length
   have g7:=Ty.sz_eq (t:=t)
   refine .code H.Zos rfl ?_
   simp(disch:=omega)[Zey]
   by_cases hk:t.k=12
   · simp(disch:=omega)[hk]
     refine Lp.rule (fun (b:Bool×Nat)=>[(1,.a (.one (.uniq 1 (ints s)))),(2,.a (.one (.ref ⟨true,10002,0⟩))),(5,.a (pb b.1)),(6,.a (pi b.2)),(9999,.objs []),(10002,.a (.agg t.cs))]) (fun b=>b.2<=s.length/\(b.1=true↔t.n∈s.take b.2)) (fun b=>s.length-b.2) (a₀:=(false,0)) (by simp [hk]) ⟨Yd _,by simp⟩ ?_
     rintro ⟨b,j⟩ ⟨k1,k2⟩
     dsimp only at k1 k2
     by_cases hj:j<s.length
     · have hm:t.n∈s.take (j+1)↔t.n∈s.take j∨t.n=s[j]:=by rw [Ym,Ya hj,Ys];simp only [Option.toList_some,List.mem_singleton]
       cases b with
       | true=>
         simp(disch:=omega)[ZcA,ZcF,hj]
         exact RdN.mk (true,j+1) rfl ⟨hj,by simp [hm,<-k2]⟩ Zm
       | false=>
         by_cases he:s[j]=t.n
         · simp(disch:=omega)[ZcA,ZcF,ZbH,Zcl,ZbD,hj,he]
           exact RdN.mk (true,j+1) rfl ⟨hj,by simp [hm,he]⟩ Zm
         · simp(disch:=omega)[ZcA,ZcF,ZbH,Zcl,ZbD,hj,he]
           exact RdN.mk (false,j+1) rfl ⟨hj,by rw [hm];exact ⟨fun h=>(nomatch (show false=true from h)),fun h=>(h:t.n∈List.take j s∨t.n=s[j]).elim (fun h=>k2.2 h) (fun h=>absurd h.symm he)⟩⟩ Zm
     · rw [Yg Zo] at k2
       cases b with
       | true=>
         have hn:t.n∈s:=k2.1 rfl
         have h0:NewOf s (if t.k=12 then [t.n] else []) s:=by
           rw [if_pos hk]
           exact ⟨fun x=>⟨.inl,fun h=>h.elim id fun h=>by rw [List.mem_singleton] at h;rw [h];exact hn⟩,by simp⟩
         simp(disch:=omega)
         refine Lp.rule (fun (b:List Int×Nat)=>[(1,.a (.one (.uniq 1 (ints b.1)))),(2,.a (.one (.ref ⟨true,10002,0⟩))),(7,.a (pi b.2)),(9999,.objs []),(10002,.a (.agg t.cs))]) (fun b=>b.2<=t.a.length/\NewOf s (Ty.numss (t.a.take b.2)) b.1) (fun b=>t.a.length-b.2) (a₀:=(s,0)) (by simp [hk]) ⟨Yd _,NewOf.nil⟩ ?_
         rintro ⟨r,j⟩ ⟨k1,k2⟩
         dsimp only at k1 k2
         have q4:=Ty.szs_take_le (l:=t.a) (j:=j)
         have q5:=Ty.numss_len (t.a.take j)
         have l1:=h0.2
         have l2:=k2.2
         have l3:(if t.k=12 then [t.n] else []).length<=1:=by split<;>simp
         by_cases hj:j<t.a.length
         · have e:=Ty.encs_get (l:=t.a) (j:=j) Zo
           have q:=Ty.fws_get (Ty.fw_a ht) hj
           have q2:=Ty.szs_get hj
           have q3:=Ty.szs_take hj
           have q6:=Ty.szs_take_le (l:=t.a) (j:=j+1)
           simp(disch:=omega)[e]
           refine ih _ _ _ Zo q Zo fun r' hr=>?_
           simp(disch:=omega)
           exact RdN.mk (r',j+1) rfl ⟨hj,by dsimp only;rw [Ty.numss_take hj];exact k2.trans hr⟩ Zm
         · rw [Yg Zo] at k2
           simp(disch:=omega)
           refine hQ _ ?_
           rw [Ty.nums_eq]
           exact h0.trans k2
       | false=>
         have h0:NewOf s (if t.k=12 then [t.n] else []) (s++[t.n]):=by
           rw [if_pos hk]
           exact ⟨fun x=>by simp,by simp⟩
         simp(disch:=omega)
         rw [<-ZiC]
         refine Lp.rule (fun (b:List Int×Nat)=>[(1,.a (.one (.uniq 1 (ints b.1)))),(2,.a (.one (.ref ⟨true,10002,0⟩))),(7,.a (pi b.2)),(9999,.objs []),(10002,.a (.agg t.cs))]) (fun b=>b.2<=t.a.length/\NewOf (s++[t.n]) (Ty.numss (t.a.take b.2)) b.1) (fun b=>t.a.length-b.2) (a₀:=((s++[t.n]),0)) (by simp [hk]) ⟨Yd _,NewOf.nil⟩ ?_
         rintro ⟨r,j⟩ ⟨k1,k2⟩
         dsimp only at k1 k2
         have q4:=Ty.szs_take_le (l:=t.a) (j:=j)
         have q5:=Ty.numss_len (t.a.take j)
         have l1:=h0.2
         have l2:=k2.2
         have l3:(if t.k=12 then [t.n] else []).length<=1:=by split<;>simp
         by_cases hj:j<t.a.length
         · have e:=Ty.encs_get (l:=t.a) (j:=j) Zo
           have q:=Ty.fws_get (Ty.fw_a ht) hj
           have q2:=Ty.szs_get hj
           have q3:=Ty.szs_take hj
           have q6:=Ty.szs_take_le (l:=t.a) (j:=j+1)
           simp(disch:=omega)[e]
           refine ih _ _ _ Zo q Zo fun r' hr=>?_
           simp(disch:=omega)
           exact RdN.mk (r',j+1) rfl ⟨hj,by dsimp only;rw [Ty.numss_take hj];exact k2.trans hr⟩ Zm
         · rw [Yg Zo] at k2
           simp(disch:=omega)
           refine hQ _ ?_
           rw [Ty.nums_eq]
           exact h0.trans k2
   · have h0:NewOf s (if t.k=12 then [t.n] else []) s:=by
       rw [if_neg hk];exact NewOf.nil
     simp(disch:=omega)[hk]
     refine Lp.rule (fun (b:List Int×Nat)=>[(1,.a (.one (.uniq 1 (ints b.1)))),(2,.a (.one (.ref ⟨true,10002,0⟩))),(7,.a (pi b.2)),(9999,.objs []),(10002,.a (.agg t.cs))]) (fun b=>b.2<=t.a.length/\NewOf s (Ty.numss (t.a.take b.2)) b.1) (fun b=>t.a.length-b.2) (a₀:=(s,0)) (by simp [hk]) ⟨Yd _,NewOf.nil⟩ ?_
     rintro ⟨r,j⟩ ⟨k1,k2⟩
     dsimp only at k1 k2
     have q4:=Ty.szs_take_le (l:=t.a) (j:=j)
     have q5:=Ty.numss_len (t.a.take j)
     have l1:=h0.2
     have l2:=k2.2
     have l3:(if t.k=12 then [t.n] else []).length<=1:=by split<;>simp
     by_cases hj:j<t.a.length
     · have e:=Ty.encs_get (l:=t.a) (j:=j) Zo
       have q:=Ty.fws_get (Ty.fw_a ht) hj
       have q2:=Ty.szs_get hj
       have q3:=Ty.szs_take hj
       have q6:=Ty.szs_take_le (l:=t.a) (j:=j+1)
       simp(disch:=omega)[e]
       refine ih _ _ _ Zo q Zo fun r' hr=>?_
       simp(disch:=omega)
       exact RdN.mk (r',j+1) rfl ⟨hj,by dsimp only;rw [Ty.numss_take hj];exact k2.trans hr⟩ Zm
     · rw [Yg Zo] at k2
       simp(disch:=omega)
       refine hQ _ ?_
       rw [Ty.nums_eq]
       exact h0.trans k2
end Go.Am.Fe
end
section
namespace Go.Am.Fe
variable {S:Nat->Option Fn} {Q:List A->List (List C)->Prop}
attribute [local simp] Zfa if_pos if_neg decide_eq_true decide_eq_false Yi Yj Zmo Ops.callv List.idxOf?_cons Ty.encs_length Zcs ZaK Zhp
def Asc (r:List Int) (i k:Nat):Prop:= ∀(a b:Nat) (_:a<b) (_:b<i) (hb:b<r.length),b≠k->r[a]<=r[b]
def swap (r:List Int) (k:Nat) (h:k<r.length):List Int:=(r.set k (r[k-1]'(by omega))).set (k-1) r[k]
def ZcW {r:List Int} {k:Nat} {h:k<r.length}:(swap r k h).length=r.length:=by simp [swap]
def ZfH {r:List Int} {k:Nat} {h:k<r.length} {a:Nat} (ha:a<r.length):(swap r k h)[a]'(by rw [ZcW];exact ha)=if a=k-1 then r[k] else if a=k then r[k-1] else r[a]:=by
 simp only [swap,List.getElem_set]
 by_cases h1:a=k-1
 ·subst h1;simp
 ·rw [if_neg (fun h=>h1 h.symm),if_neg h1]
  by_cases h2:a=k
  ·subst h2;simp
  ·rw [if_neg (fun h=>h2 h.symm),if_neg h2]
def ZsK {r:List Int} {k:Nat} {h:k<r.length} (h0:0<k) (x:Int):x∈swap r k h↔x∈r:=by
 constructor
 ·intro hx
  obtain ⟨a,ha,rfl⟩:=List.mem_iff_getElem.1 hx
  rw [ZcW] at ha
  rw [ZfH ha]
  split
  ·exact Yl _
  ·split<;>exact Yl _
 ·intro hx
  obtain ⟨a,ha,rfl⟩:=List.mem_iff_getElem.1 hx
  by_cases h1:a=k
  ·subst h1
   have:=ZfH (h:=h) (a:=a-1) Zo
   rw [if_pos rfl] at this
   rw [<-this];exact Yl _
  ·by_cases h2:a=k-1
   ·subst h2
    have:=ZfH (h:=h) (a:=k) Zo
    rw [if_neg Zo,if_pos rfl] at this
    rw [<-this];exact Yl _
   ·have:=ZfH (h:=h) (a:=a) ha
    rw [if_neg h2,if_neg h1] at this
    rw [<-this];exact Yl _
def Asc.swap {r:List Int} {i k:Nat} {h:k<r.length} (hs:Asc r i k) (h0:0<k) (hlt:r[k]<r[k-1]) (hi:k<i):Asc (swap r k h) i (k-1):=by
 intro a b hab hbi hb hne
 rw [ZcW] at hb
 rw [ZfH Zo,ZfH hb,if_neg hne]
 by_cases h1:b=k
 ·subst h1
  rw [if_pos rfl]
  by_cases h2:a=b-1
  ·rw [if_pos h2];omega
  ·rw [if_neg h2,if_neg Zo]
   exact hs a (b-1) Zo Zo Zo Zo
 ·rw [if_neg h1]
  by_cases h2:a=k-1
  ·rw [if_pos h2]
   exact hs k b Zo hbi hb h1
  ·rw [if_neg h2]
   by_cases h3:a=k
   ·rw [if_pos h3]
    exact hs (k-1) b Zo hbi hb h1
   ·rw [if_neg h3]
    exact hs a b hab hbi hb h1
def Asc.done {r:List Int} {i k:Nat} (hs:Asc r i k) (hk:k<r.length) (h:0<k->r[k-1]<=r[k]): ∀m,Asc r i m:=by
 intro m a b hab hbi hb _
 by_cases h1:b=k
 ·subst h1
  have:=h Zo
  by_cases h2:a=b-1
  ·subst h2;exact this
  ·exact Int.le_trans (hs a (b-1) Zo Zo Zo Zo) this
 ·exact hs a b hab hbi hb h1
def Asc.next {r:List Int} {i:Nat} (hs: ∀m,Asc r i m):Asc r (i+1) i:=fun a b hab hbi hb hne=>hs b.succ a b hab Zo hb Zo
def ZiL {l:List Int} {j:Nat} {x:Int} (h:j<l.length):List.take j (Zfr l)++C.p (.int .i64 x)::List.drop (j+1) (Zfr l)=Zfr (l.set j x):=by
 have e:Zfr (l.set j x)=(Zfr l).set j (.p (.int .i64 x)):=by simp [Zfr,List.map_set]
 rw [e,List.set_eq_take_append_cons_drop,if_pos (by simpa using h)]
def ZpM {l:List Int} {j:Nat} {x:Int} (h:j-1<l.length) (h0:0<j):List.take (j-1) (Zfr l)++C.p (.int .i64 x)::List.drop j (Zfr l)=Zfr (l.set (j-1) x):=by
 have:=ZiL (l:=l) (j:=j-1) (x:=x) h
 rwa [show j-1+1=j by omega] at this
def Zqc {k κ m:Nat} {e:Env} {l:List Int} (h:m<l.length):Zq7 k 0 κ 1 e (.a (.one (.own ⟨true,κ,0⟩ 1 l.length))) (.a (.agg (Zfr ((l.set m (l[m-1]'(by omega))).set (m-1) l[m]))))=(k,.a (.one (.uniq 1 (ints (swap l m h)))))::(κ,.undef)::e:=by
 have e1:(swap l m h).length=l.length:=ZcW
 have:=ZcF (k:=k) (κ:=κ) (e:=e) (l:=swap l m h)
 rw [e1] at this
 exact this
def Zuu (H:Has S) {t:Ty} (ht:t.fw) (h1:t.sz<=100) (hQ: ∀r:List Int,r.length<=100->(∀x,x∈r↔x∈t.nums)->(∀m,Asc r r.length m)->Q [.one (.p (.sl 1 (ints r)))] []):Gives S ZiZ [.agg t.cs] [] Q:=by
 refine .code H.Zyp rfl ?_
 simp(disch:=omega)[Zkr]
 refine Zh0 H _ t [] _ (Yz _) ht Ze fun r0 hr0=>?_
 have hl0:=hr0.2
 have hl1:=Ty.nums_len t
 simp(disch:=omega)
 refine Lp.rule (fun (b:List Int×Nat)=>[(3,.a (.one (.uniq 1 (ints b.1)))),(4,.a (pi b.2)),(9999,.objs [])]) (fun b=>b.2<=b.1.length/\b.1.length<=100/\(∀x,x∈b.1↔x∈t.nums)/\ ∀m,Asc b.1 b.2 m) (fun b=>b.1.length-b.2) (a₀:=(r0,0)) Zs ⟨Yd _,by simp at hl0;dsimp only;omega,fun x=>by rw [hr0.1];simp,fun m a b _ h=>by dsimp only at h;omega⟩ ?_
 rintro ⟨r,i⟩ ⟨k1,k2,k3,k4⟩
 dsimp only at k1 k2 k3 k4
 by_cases hi:i<r.length
 ·simp(disch:=omega)[hi]
  refine Lp.rule (fun (b:List Int×Nat)=>[(3,.a (.one (.uniq 1 (ints b.1)))),(4,.a (pi i)),(5,.a (pi b.2)),(9999,.objs [])]) (fun b=>b.1.length=r.length/\b.2<=i/\(∀x,x∈b.1↔x∈t.nums)/\Asc b.1 (i+1) b.2) (fun b=>b.2) (a₀:=(r,i)) Zs ⟨rfl,Yc _,k3,Asc.next k4⟩ ?_
  rintro ⟨r',k⟩ ⟨j1,j2,j3,j4⟩
  dsimp only at j1 j2 j3 j4
  by_cases hk:0<k
  ·by_cases hlt:r'[k]<r'[k-1]
   ·have e1:(r'.set k (r'[k-1]'(by omega))).length=r'.length:=by simp
    simp(disch:=omega)[ZcA,ZcF,Zqc,ZbH,Zcl,ZbD,ZiL,ZpM,hk,hlt]
    exact RdN.mk (swap r' k Zo,k-1) (by dsimp only;rw [show ((k-1:Nat):Int)=k-1 by omega]) ⟨by rw [ZcW,j1],by dsimp only;omega,fun x=>by rw [ZsK hk,j3],j4.swap hk hlt Zo⟩ Zm
   ·simp(disch:=omega)[ZcA,ZcF,ZbH,Zcl,ZbD,hk,hlt]
    exact RdN.mk (r',i+1) Zs ⟨by dsimp only;omega,by dsimp only;omega,j3,j4.done Zo fun _=>by omega⟩ Zm
  ·simp(disch:=omega)[ZcA,ZcF,ZbH,Zcl,ZbD,hk]
   exact RdN.mk (r',i+1) Zs ⟨by dsimp only;omega,by dsimp only;omega,j3,j4.done Zo fun h=>absurd h hk⟩ Zm
 ·simp(disch:=omega)[hi]
  have:i=r.length:=by omega
  subst this
  exact hQ r k2 k3 k4
def OpP (n:Int) (t:Ty):Prop:=t.sz<=40/\t.all (ShP true)/\ ∀x∈t.nums,x<n
def Zq0 (H:Has S) {t:Ty} {n:Int} (ht:t.fw) (hQ:Q [pb (dq (OpP n t))] []):Gives S Zfh [.agg t.cs,pi n] [] Q:=by
 refine .code H.ZuM rfl ?_
 simp(disch:=omega)[ZiT]
 refine Zxs H ht ?_
 by_cases h0:t.sz<=40/\t.all (ShP true)
 ·rw [Zah h0]
  simp(disch:=omega)
  refine Zuu H ht Zo fun r r1 r2 r3=>?_
  have g:=ZaK (l:=r)
  by_cases hr:r=[]
  ·rw [Zah ⟨h0.1,h0.2,fun x hx=>by rw [<-r2,hr] at hx;cases hx⟩] at hQ
   simp(disch:=omega)[hr,ints]
   exact hQ
  ·have hl:0<r.length:=List.length_pos_iff.2 hr
   have e:=ZfI (l:=r) (j:=r.length-1) Ze
   have hmax:(∀x∈t.nums,x<n)↔r[r.length-1]<n:=by
    constructor
    ·intro h
     exact h _ ((r2 _).1 (Yl _))
    ·intro h x hx
     obtain ⟨a,ha,rfl⟩:=List.mem_iff_getElem.1 ((r2 x).2 hx)
     by_cases h':a=r.length-1
     ·subst h';exact h
     ·have:=r3 r.length a (r.length-1) Zo Zo Zo Zo
      omega
   rw [show dq (OpP n t)=decide (r[r.length-1]<n) from Zy8 ⟨fun h=>⟨h0.1,h0.2,hmax.2 (of_decide_eq_true h)⟩,fun h=>decide_eq_true (hmax.1 h.2.2)⟩] at hQ
   simp(disch:=omega)[e,hr]
   exact hQ
 ·rw [Zaf h0]
  rw [Zaf fun h=>h0 ⟨h.1,h.2.1⟩] at hQ
  simp(disch:=omega)
  exact hQ
def Zrr (H:HM S) {t:Ty} {n:Int} (ht:t.fw) (hQ:Q [pb (dq (OpP n t))] []):Gives S ZbU [.agg t.cs,pi n] [] Q:=by
 refine .code H.Zm9 rfl ?_
 simp(disch:=omega)[ZdE]
 refine ZvH H.toHas ht ?_
 by_cases h0:t.sz<=40/\t.all (ShP true)
 ·rw [Zah h0]
  simp(disch:=omega)[cloR]
  refine ZxM H ht Zo fun r r1 r2=>?_
  have g:=ZaK (l:=r)
  simp(disch:=omega)[cloR]
  refine .code H.ZcZ rfl ?_
  simp(disch:=omega)[ZaI,cloR]
  refine .code H.ZdL rfl ?_
  simp(disch:=omega)[ZaX,cloR]
  refine Lp.rule (fun (j:Nat)=>[(0,.a (.one (.p (.sl 1 (ints r))))),(1,.a (.one (.clo ZbJ [] [⟨false,0,0⟩]))),(7,.a (pi r.length)),(8,.a (pi j)),(9999,.objs [[.p (.int .i64 n)]])]) (fun j=>j<=r.length/\ ∀x∈r.take j,x<n) (fun j=>r.length-j) (a₀:=0) Zs ⟨Yd _,by simp⟩ ?_
  rintro j ⟨k1,k2⟩
  by_cases hj:j<r.length
  ·have e:=ZfI (l:=r) (j:=j) (by simpa using hj)
   simp(disch:=omega)[e,cloR]
   refine .code H.ZjO rfl ?_
   simp(disch:=omega)[ZcP,cloR]
   by_cases hx:n<=r[j]
   ·rw [Zaf fun h=>by have:=h.2.2 _ ((r2 _).1 (Yl hj));omega] at hQ
    simp(disch:=omega)[hx,cloR]
    exact hQ
   ·simp(disch:=omega)[hx,cloR]
    exact RdN.mk (j+1) Zs ⟨hj,ZcJ hj k2 Zo⟩ Zo
  ·have k3:=ZcN k2 Zo
   rw [Zah ⟨h0.1,h0.2,fun x hx=>k3 _ ((r2 x).2 hx)⟩] at hQ
   simp(disch:=omega)[cloR]
   exact hQ
 ·rw [Zaf h0]
  rw [Zaf fun h=>h0 ⟨h.1,h.2.1⟩] at hQ
  simp(disch:=omega)
  exact hQ
end Go.Am.Fe
end
section
namespace Go.Am.Fe
variable {S:Nat->Option Fn} {Q:List A->List (List C)->Prop}
attribute [local simp] Zfa if_pos if_neg decide_eq_true decide_eq_false Yi Yj Zmo Ops.callv List.idxOf?_cons Ty.encs_length
def Ty.fws_mem: ∀{l:List Ty},Ty.fws l-> ∀t∈l,t.fw
 | t::l,h,u,hu=>by
   rcases List.mem_cons.1 hu with rfl|hu
   · exact h.1
   · exact Ty.fws_mem h.2 u hu
def ZpV {α:Type} {a b:List α} {j:Nat} (h:a.take j=b.take j) (ha:a.length<=j) (hb:b.length<=j):a=b:=by
 rwa [Yg ha,Yg hb] at h
def Zit (H:HM S) {a b:Int} (hQ: ∀c:Int, -1<=c->c<=1->(c=0↔a=b)->Q [pi c] []):Gives S Za3 [pi a,pi b] [] Q:=by
 refine .code H.ZjW rfl ?_
 simp(disch:=omega)[ZcT]
 refine .code H.ZgL rfl ?_
 simp(disch:=omega)[Zb6]
 refine .code H.ZgL rfl ?_
 simp(disch:=omega)[Zb6]
 rcases Int.lt_trichotomy a b with h|h|h
 ·simp(disch:=omega)[h]
  exact hQ _ Zo Zo Zo
 ·subst h
  simp(disch:=omega)
  exact hQ _ Zo Zo Zo
 ·simp(disch:=omega)[h]
  exact hQ _ Zo Zo Zo
def Zr3 (H:HM S) {a b:List Nat} (hQ:Q [pi (cmpN a b)] []):Gives S Zbt [ps a,ps b] [] Q:=by
 refine .code H.ZiY rfl ?_
 simp(disch:=omega)[Zcj]
 refine H.cmp _ _ ?_
 simp(disch:=omega)
 exact hQ
def ZrM (H:HM S) {a b c:Int} (hQ:Q [pi (if a≠0 then a else if b≠0 then b else c)] []):Gives S Zfb [.one (.p (.sl 1 [[.int .i64 a],[.int .i64 b],[.int .i64 c]]))] [] Q:=by
 refine .code H.ZrY rfl ?_
 simp(disch:=omega)[Zhg]
 refine Lp.rule (fun (j:Nat)=>[(3,.a (pi 0)),(6,.a (.one (.p (.sl 1 [[.int .i64 a],[.int .i64 b],[.int .i64 c]])))),(7,.a (pi 3)),(8,.a (pi j)),(9999,.objs [])]) (fun j=>j<=3/\(1<=j->a=0)/\(2<=j->b=0)/\(3<=j->c=0)) (fun j=>3-j) (a₀:=0) Zs Zo ?_
 rintro j ⟨k1,k2,k3,k4⟩
 obtain rfl|rfl|rfl|rfl:j=0∨j=1∨j=2∨j=3:=by omega
 ·by_cases h:a=0
  ·simp(disch:=omega)[h]
   exact RdN.mk 1 (by simp [h]) Zo Zo
  ·rw [if_pos h] at hQ
   simp(disch:=omega)[h]
   exact hQ
 ·obtain rfl:=k2 Zo
  by_cases h:b=0
  ·simp(disch:=omega)[h]
   exact RdN.mk 2 (by simp [h]) Zo Zo
  ·simp [h] at hQ
   simp(disch:=omega)[h]
   exact hQ
 ·obtain rfl:=k2 Zo
  obtain rfl:=k3 Zo
  by_cases h:c=0
  ·simp(disch:=omega)[h]
   exact RdN.mk 3 (by simp [h]) Zo Zo
  ·simp at hQ
   simp(disch:=omega)[h]
   exact hQ
 ·obtain rfl:=k2 Zo
  obtain rfl:=k3 Zo
  obtain rfl:=k4 Zo
  simp at hQ
  simp(disch:=omega)
  exact hQ
def CmpQ (S:Nat->Option Fn) (n:Nat):Prop:= ∀(t u:Ty) (Q:List A->List (List C)->Prop),t.sz<n->t.fw->u.fw->(∀c:Int, -1<=c->c<=1->(c=0↔t=u)->Q [pi c] [])->Gives S ZaP [.agg t.cs,.agg u.cs] [] Q
def ZuS (H:HM S) {n:Nat} (ih:CmpQ S n) {a b:List Ty} (hs:Ty.szs a<n) (ha:a.length<=9223372036854775807) (hb:b.length<=9223372036854775807) (ha':Ty.fws a) (hb':Ty.fws b) (hQ: ∀c:Int, -1<=c->c<=1->(c=0↔a=b)->Q [pi c] []):
  Gives S ZaV [.one (.p (.sl 4 (Ty.encs a))),.one (.p (.sl 4 (Ty.encs b))),.one (.clo ZaP [] [])] [] Q:=by
 have ga:=Ty.encs_length (l:=a)
 have gb:=Ty.encs_length (l:=b)
 refine .code H.ZfX rfl ?_
 simp(disch:=omega)[Zbj]
 refine Lp.rule (fun (j:Nat)=>[(0,.a (.one (.p (.sl 4 (Ty.encs a))))),(1,.a (.one (.p (.sl 4 (Ty.encs b))))),(2,.a (.one (.clo ZaP [] []))),(7,.a (pi j)),(9999,.objs [])]) (fun j=>j<=a.length/\j<=b.length/\a.take j=b.take j) (fun j=>a.length-j) (a₀:=0) Zs ⟨Yd _,Yd _,by simp⟩ ?_
 rintro j ⟨k1,k2,k3⟩
 have fin: ¬(j<a.length/\j<b.length)->((a.length:Int)=b.length↔a=b):=fun h=>⟨fun h'=>by
  rwa [Yg Zo,Yg Zo] at k3,fun h'=>by rw [h']⟩
 by_cases hj:j<a.length
 ·by_cases hj':j<b.length
  ·have e:=Ty.encs_get (l:=a) (j:=j) (by simpa using hj)
   have e':=Ty.encs_get (l:=b) (j:=j) (by simpa using hj')
   simp(disch:=omega)[e,e']
   refine ih a[j] b[j] _ (by have:=Ty.szs_get hj;omega) (Ty.fws_get ha' hj) (Ty.fws_get hb' hj') fun c c1 c2 hc=>?_
   by_cases h0:c=0
   ·have:=hc.1 h0
    simp(disch:=omega)[h0]
    exact RdN.mk (j+1) rfl ⟨hj,hj',by rw [Ym,Ym,k3,Ya hj,Ya hj',this]⟩ Zo
   ·simp(disch:=omega)[h0]
    refine hQ c c1 c2 ⟨fun h=>absurd h h0,fun h=>?_⟩
    subst h
    exact absurd (hc.2 rfl) h0
  ·simp(disch:=omega)
   refine Zit H fun c c1 c2 hc=>?_
   simp(disch:=omega)
   exact hQ c c1 c2 (hc.trans (fin Zo))
 ·simp(disch:=omega)
  refine Zit H fun c c1 c2 hc=>?_
  simp(disch:=omega)
  exact hQ c c1 c2 (hc.trans (fin Zo))
def Zq8 (H:HM S): ∀n,CmpQ S n
 | 0=>fun _ _ _ h=>absurd h (YI _)
 | n+1=>fun t u Q hs h1 h2 hQ=>by
   have ih:=Zq8 H n
   refine .code H.Zki rfl ?_
   simp(disch:=omega)[ZcR]
   refine Zit H fun c1 p1 p2 p3=>?_
   simp(disch:=omega)
   refine Zr3 H ?_
   simp(disch:=omega)
   refine Zit H fun c2 q1 q2 q3=>?_
   simp(disch:=omega)
   refine ZrM H ?_
   simp(disch:=omega)
   by_cases e1:t.k=u.k
   · obtain rfl:=p3.2 e1
     by_cases e2:t.s=u.s
     · have e2':=(ZiN _ _).2 e2
       by_cases e3:t.n=u.n
       · obtain rfl:=q3.2 e3
         simp(disch:=omega)[e2']
         refine ZuS H ih (by have:=Ty.sz_a (t:=t);omega) (Ty.fw_len h1) (Ty.fw_len h2) (Ty.fw_a h1) (Ty.fw_a h2) fun c r1 r2 r3=>?_
         simp(disch:=omega)
         exact hQ c r1 r2 (by rw [r3,Ty.eq_iff];simp [e1,e2,e3])
       · have e3': ¬c2=0:=fun h=>e3 (q3.1 h)
         simp(disch:=omega)[e2',e3']
         exact hQ c2 q1 q2 ⟨fun h=>absurd h e3',fun h=>absurd (by rw [h]) e3⟩
     · have e2': ¬cmpN t.s u.s=0:=fun h=>e2 ((ZiN _ _).1 h)
       have:=ZrV t.s u.s
       simp(disch:=omega)[e2']
       exact hQ _ this.1 this.2 ⟨fun h=>absurd h e2',fun h=>absurd (by rw [h]) e2⟩
   · have e1': ¬c1=0:=fun h=>e1 (p3.1 h)
     simp(disch:=omega)[e1']
     exact hQ c1 p1 p2 ⟨fun h=>absurd h e1',fun h=>absurd (by rw [h]) e1⟩
def ZwS (H:HM S) {t u:Ty} (h1:t.fw) (h2:u.fw) (hQ:Q [pb (dq (t=u))] []):Gives S Zda [.agg t.cs,.agg u.cs] [] Q:=by
 refine .code H.ZoT rfl ?_
 simp(disch:=omega)[ZeD]
 refine Zq8 H (t.sz+1) t u _ (Yz _) h1 h2 fun c _ _ hc=>?_
 by_cases h:c=0
 ·rw [Zah (hc.1 h)] at hQ
  simp(disch:=omega)[h]
  exact hQ
 ·rw [Zaf fun h'=>h (hc.2 h')] at hQ
  simp(disch:=omega)[h]
  exact hQ
def Zpt {α:Type} {a b:List α} {j:Nat} (h:a.take j=b.take j) (ha:j<a.length) (hb:j<b.length) (he:a[j]=b[j]):a.take (j+1)=b.take (j+1):=by
 rw [Ym,Ym,h,Ya ha,Ya hb,he]
def Zxu {α:Type} {a b:List α} {j:Nat} (ha:j<a.length) (hb:j<b.length) (h:a[j]≠b[j]):a≠b:=fun e=>h (by subst e;rfl)
def EqT (S:Nat->Option Fn) (n:Nat):Prop:= ∀(t u:Ty) (Q:List A->List (List C)->Prop),t.sz<n->t.fw->u.fw->Q [pb (dq (t=u))] []->Gives S Zc7 [.agg t.cs,.agg u.cs] [] Q
def Ty.fw_args {t:Ty} (h:t.fw):Ok Ty.fw t.a:=⟨Ty.fw_len h,fun x hx=>by cases t;exact Ty.fws_mem h.2 x hx⟩
def Zyb (H:Has S) {n:Nat} (ih:EqT S n) {a b:List Ty} (hm:Ty.szs a<n) (h1:Ok Ty.fw a) (h2:Ok Ty.fw b) (hQ:Q [pb (dq (a=b))] []):Gives S Zeo [.one (.p (.sl 4 (Ty.encs a))),.one (.p (.sl 4 (Ty.encs b)))] [] Q:=by
 have g1:=h1.1
 have g2:=h2.1
 have e1:(Ty.encs a).length=a.length:=Ty.encs_length
 have e2:(Ty.encs b).length=b.length:=Ty.encs_length
 refine .code H.Zp1 rfl ?_
 simp(disch:=omega)[ZfV]
 by_cases hl:a.length=b.length
 ·simp(disch:=omega)[hl]
  refine Lp.rule (fun (j:Nat)=>[(0,.a (.one (.p (.sl 4 (Ty.encs a))))),(1,.a (.one (.p (.sl 4 (Ty.encs b))))),(5,.a (pi j)),(9999,.objs [])]) (fun j=>j<=a.length/\a.take j=b.take j) (fun j=>a.length-j) (a₀:=0) Zs ⟨Yd _,by simp⟩ ?_
  rintro j ⟨k1,k2⟩
  by_cases hj:j<a.length
  ·have hjb:j<b.length:=by omega
   have r1:=Ty.encs_get (l:=a) (j:=j) Zo
   have r2:=Ty.encs_get (l:=b) (j:=j) Zo
   simp(disch:=omega)[r1,r2]
   refine ih _ _ _ (by have:=Ty.szs_get hj;omega) (h1.2 _ (Yl hj)) (h2.2 _ (Yl hjb)) ?_
   by_cases he:a[j]=b[j]
   ·rw [Zah he]
    simp(disch:=omega)
    exact RdN.mk (j+1) Zs ⟨hj,Zpt k2 hj hjb he⟩ Zo
   ·rw [Zaf he]
    simp(disch:=omega)
    rw [Zaf (Zxu hj hjb he)] at hQ
    exact hQ
  ·simp(disch:=omega)
   rw [Zah (ZpV k2 Zo Zo)] at hQ
   exact hQ
 ·simp(disch:=omega)[hl]
  rw [Zaf fun h=>hl (by rw [h])] at hQ
  exact hQ
def Zo8 (H:Has S): ∀n,EqT S n
 | 0=>fun _ _ _ h=>absurd h (YI _)
 | n+1=>by
   intro t u Q hm h1 h2 hQ
   have ih:=Zo8 H n
   refine .code H.Zsr rfl ?_
   simp(disch:=omega)[Zht]
   by_cases e1:t.k=u.k
   · by_cases e2:t.s=u.s
     · by_cases e3:t.n=u.n
       · simp(disch:=omega)[e1,e2,e3]
         refine Zyb H ih (by cases t;simp [Ty.sz,Ty.a] at hm⊢;omega) (Ty.fw_args h1) (Ty.fw_args h2) ?_
         simp(disch:=omega)
         rwa [show (dq (t.a=u.a))=dq (t=u) from by
           by_cases e4:t.a=u.a
           · rw [Zah e4,Zah (Ty.ext e1 e2 e3 e4)]
           · rw [Zaf e4,Zaf fun h=>e4 (by rw [h])]]
       · rw [Zaf fun h=>e3 (by rw [h])] at hQ
         simp(disch:=omega)[e1,e2,e3]
         exact hQ
     · rw [Zaf fun h=>e2 (by rw [h])] at hQ
       simp(disch:=omega)[e1,e2]
       exact hQ
   · rw [Zaf fun h=>e1 (by rw [h])] at hQ
     simp(disch:=omega)[e1]
     exact hQ
def ZzJ (H:Has S) {t u:Ty} (h1:t.fw) (h2:u.fw) (hQ:Q [pb (dq (t=u))] []):Gives S Zc7 [.agg t.cs,.agg u.cs] [] Q:=Zo8 H _ t u Q (Yz _) h1 h2 hQ
def z0:Ty:= .mk 0 [] 0 []
def ZzA:z0.fw:=⟨by decide,trivial⟩
def ConP (n:Int) (c:Con):Prop:=OpP n c.a/\(if c.k=1∨c.k=2∨c.k=5 then OpP n c.b/\c.p=[] else if c.k=3 then c.b=z0 else if c.k=4 then c.b=z0/\c.p=[] else False)
def Zu1 (H:HM S) {t:Ty} (ht:t.fw) (hQ:Q [pb (dq (t=z0))] []):Gives S Zfq [.agg t.cs] [] Q:=by
 refine .code H.ZuH rfl ?_
 simp(disch:=omega)[ZiS]
 refine ZzJ H.toHas (u:=z0) ht ZzA ?_
 simp(disch:=omega)
 exact hQ
def ZuA (H:HM S) {c:Con} {n:Int} (hc:c.ok) (hQ:Q [pb (dq (ConP n c))] []):Gives S ZgV [.agg c.cs,pi n] [] Q:=by
 refine .code H.Zys rfl ?_
 simp(disch:=omega)[ZkL]
 refine Zq0 H.toHas hc.1 ?_
 by_cases h0:OpP n c.a
 ·rw [Zah h0]
  simp(disch:=omega)
  by_cases h1:c.k=1∨c.k=2∨c.k=5
  ·have key:ConP n c↔OpP n c.b/\c.p=[]:=by unfold ConP;rw [if_pos h1];simp [h0]
   rw [Zjq key] at hQ
   rcases h1 with h1|h1|h1
   all_goals
    simp(disch:=omega)[h1]
    refine Zq0 H.toHas hc.2 ?_
    by_cases h2:OpP n c.b
    ·rw [Zah h2]
     by_cases h3:c.p=[]
     ·rw [Zah ⟨h2,h3⟩] at hQ
      simp(disch:=omega)[h3]
      exact hQ
     ·rw [Zaf fun h=>h3 h.2] at hQ
      simp(disch:=omega)[h3]
      exact hQ
    ·rw [Zaf h2]
     rw [Zaf fun h=>h2 h.1] at hQ
     simp(disch:=omega)
     exact hQ
  ·have h1':=h1
   simp only [not_or] at h1'
   by_cases h2:c.k=3
   ·have key:ConP n c↔c.b=z0:=by unfold ConP;rw [if_neg h1,if_pos h2];simp [h0]
    rw [Zjq key] at hQ
    simp(disch:=omega)[h2]
    refine Zu1 H hc.2 ?_
    simp(disch:=omega)
    exact hQ
   ·by_cases h3:c.k=4
    ·have key:ConP n c↔c.b=z0/\c.p=[]:=by unfold ConP;rw [if_neg h1,if_neg h2,if_pos h3];simp [h0]
     rw [Zjq key] at hQ
     simp(disch:=omega)[h3]
     refine Zu1 H hc.2 ?_
     by_cases h4:c.b=z0
     ·rw [Zah h4]
      by_cases h5:c.p=[]
      ·rw [Zah ⟨h4,h5⟩] at hQ
       simp(disch:=omega)[h5]
       exact hQ
      ·rw [Zaf fun h=>h5 h.2] at hQ
       simp(disch:=omega)[h5]
       exact hQ
     ·rw [Zaf h4]
      rw [Zaf fun h=>h4 h.1] at hQ
      simp(disch:=omega)
      exact hQ
    ·have key: ¬ConP n c:=by unfold ConP;rw [if_neg h1,if_neg h2,if_neg h3];simp
     rw [Zaf key] at hQ
     simp(disch:=omega)[h1',h2,h3]
     exact hQ
 ·rw [Zaf h0]
  rw [Zaf fun h=>h0 h.1] at hQ
  simp(disch:=omega)
  exact hQ
def Zyg (H:HM S) {c:Con} {n:Int} (hc:c.ok) (hQ:Q [pb (dq (ConP n c))] []):Gives S ZcK [.agg c.cs,pi n] [] Q:=by
 refine .code H.ZmQ rfl ?_
 simp(disch:=omega)[ZdS]
 refine ZwS H (u:=z0) hc.2 ZzA ?_
 simp(disch:=omega)
 refine Zrr H hc.1 ?_
 by_cases h0:OpP n c.a
 ·rw [Zah h0]
  simp(disch:=omega)
  by_cases h1:c.k=1∨c.k=2∨c.k=5
  ·have key:ConP n c↔OpP n c.b/\c.p=[]:=by unfold ConP;rw [if_pos h1];simp [h0]
   rw [Zjq key] at hQ
   rcases h1 with h1|h1|h1
   all_goals
    simp(disch:=omega)[h1]
    refine Zrr H hc.2 ?_
    by_cases h2:OpP n c.b
    ·rw [Zah h2]
     by_cases h3:c.p=[]
     ·rw [Zah ⟨h2,h3⟩] at hQ
      simp(disch:=omega)[h3]
      exact hQ
     ·rw [Zaf fun h=>h3 h.2] at hQ
      simp(disch:=omega)[h3]
      exact hQ
    ·rw [Zaf h2]
     rw [Zaf fun h=>h2 h.1] at hQ
     simp(disch:=omega)
     exact hQ
  ·have h1':=h1
   simp only [not_or] at h1'
   by_cases h2:c.k=3
   ·have key:ConP n c↔c.b=z0:=by unfold ConP;rw [if_neg h1,if_pos h2];simp [h0]
    rw [Zjq key] at hQ
    simp(disch:=omega)[h2]
    exact hQ
   ·by_cases h3:c.k=4
    ·have key:ConP n c↔c.b=z0/\c.p=[]:=by unfold ConP;rw [if_neg h1,if_neg h2,if_pos h3];simp [h0]
     rw [Zjq key] at hQ
     by_cases h4:c.b=z0
     ·by_cases h5:c.p=[]
      ·rw [Zah ⟨h4,h5⟩] at hQ
       rw [Zah h4]
       simp(disch:=omega)[h3,h5]
       exact hQ
      ·rw [Zaf fun h=>h5 h.2] at hQ
       rw [Zah h4]
       simp(disch:=omega)[h3,h5]
       exact hQ
     ·rw [Zaf fun h=>h4 h.1] at hQ
      rw [Zaf h4]
      simp(disch:=omega)[h3]
      exact hQ
    ·have key: ¬ConP n c:=by unfold ConP;rw [if_neg h1,if_neg h2,if_neg h3];simp
     rw [Zaf key] at hQ
     simp(disch:=omega)[h1',h2,h3]
     exact hQ
 ·rw [Zaf h0]
  rw [Zaf fun h=>h0 h.1] at hQ
  simp(disch:=omega)
  exact hQ
end Go.Am.Fe
end
section
namespace Go.Am.Fe
variable {S:Nat->Option Fn} {Q:List A->List (List C)->Prop}
attribute [local simp] Zfa if_pos if_neg decide_eq_true decide_eq_false Yi Yj Zmo Ops.callv List.idxOf?_cons Zcs
def Zba {α:Type} {f:α->List P} {l:List α} {j:Nat} (h:j<(l.map f).length):(l.map f)[j]=f (l[j]'(by simpa using h)):=List.getElem_map ..
def altC (l:List Alt):List Con:=l.flatMap Alt.l
def chC (l:List (List Alt)):List Con:=l.flatMap altC
def allC (x:Pb):List Con:=x.l++chC x.c
def Zec {l:List Alt} {j:Nat} (h:j<l.length):altC (l.take (j+1))=altC (l.take j)++l[j].l:=by
 rw [List.take_succ_eq_append_getElem h];simp only [altC,List.flatMap_append,List.flatMap_cons,List.flatMap_nil,List.append_nil]
def ZfK {l:List (List Alt)} {j:Nat} (h:j<l.length):chC (l.take (j+1))=chC (l.take j)++altC l[j]:=by
 rw [List.take_succ_eq_append_getElem h];simp only [chC,List.flatMap_append,List.flatMap_cons,List.flatMap_nil,List.append_nil]
def Zoo {l:List Alt} {j:Nat}:(altC (l.take j)).length<=(altC l).length:=by
 have:altC l=altC (l.take j)++altC (l.drop j):=by unfold altC;rw [<-List.flatMap_append,List.take_append_drop]
 rw [this,YF];omega
def Zra {l:List (List Alt)} {j:Nat}:(chC (l.take j)).length<=(chC l).length:=by
 have:chC l=chC (l.take j)++chC (l.drop j):=by unfold chC;rw [<-List.flatMap_append,List.take_append_drop]
 rw [this,YF];omega
def AlP (a:Alt):Prop:=0<=a.z/\a.z<=9
def ChoP (l:List Alt):Prop:=1<=l.length/\l.length<=6/\ ∀a∈l,AlP a
def VaP (x:Pb):Prop:=(0<=x.n/\x.n<=40/\x.c.length<=8/\x.l.length<=80)/\(∀ch∈x.c,ChoP ch)/\(allC x).length<=80/\ ∀c∈allC x,ConP x.n c
def ZcX {x:Pb} {i k:Nat} (hi:i<x.c.length) (hk:k<x.c[i].length):x.c[i][k].l.length<=(allC x).length:=by
 have h1:=Zra (l:=x.c) (j:=i+1)
 have h2:=Zoo (l:=x.c[i]) (j:=k+1)
 rw [ZfK hi,YF] at h1
 rw [Zec hk,YF] at h2
 unfold allC
 rw [YF];omega
def ZuY {x:Pb} (hx:x.ok): ∀c∈allC x,c.ok:=by
 intro c hc
 rcases List.mem_append.1 hc with hc|hc
 ·exact hx.1.2 c hc
 ·obtain ⟨ch,h1,h2⟩:=List.mem_flatMap.1 hc
  obtain ⟨a,h3,h4⟩:=List.mem_flatMap.1 h2
  exact ((hx.2.2 ch h1).2 a h3).2 c h4
def Zmn (H:HM S) {x:Pb} {l:List Con} (hl:l.length<=100000) (ho: ∀c∈l,c.ok) (hQ:Q [pb (!dq (∀c∈l,ConP x.n c))] [x.cs]):Gives S Zap [.one (.p (.sl 10 (l.map Con.row))),.one (.clo Zbu [] [⟨false,0,0⟩])] [x.cs] Q:=by
 have g:=Yh (as:=l) Con.row
 refine .code H.ZbP rfl ?_
 simp(disch:=omega)[Zav,cloR]
 refine .code H.Zct rfl ?_
 simp(disch:=omega)[ZaA,cloR]
 refine Lp.rule (fun (j:Nat)=>[(0,.a (.one (.p (.sl 10 (l.map Con.row))))),(1,.a (.one (.clo Zbu [] [⟨false,0,0⟩]))),(7,.a (pi l.length)),(8,.a (pi j)),(9999,.objs [x.cs])]) (fun j=>j<=l.length/\ ∀c∈l.take j,ConP x.n c) (fun j=>l.length-j) (a₀:=0) Zs ⟨Yd _,by simp⟩ ?_
 rintro j ⟨k1,k2⟩
 by_cases hj:j<l.length
 ·have e:=Zba (f:=Con.row) (l:=l) (j:=j) Zo
  simp(disch:=omega)[e,cloR]
  refine .code H.Zkv rfl ?_
  simp(disch:=omega)[Zdc,cloR]
  refine Zyg H (ho _ (Yl hj)) ?_
  by_cases hx:ConP x.n l[j]
  ·rw [Zah hx]
   simp(disch:=omega)[cloR]
   exact RdN.mk (j+1) Zs ⟨hj,ZcJ hj k2 hx⟩ Zo
  ·rw [Zaf hx]
   rw [Zaf fun h=>hx (h _ (Yl hj))] at hQ
   simp(disch:=omega)[cloR]
   exact hQ
 ·have k3:=ZcN k2 Zo
  rw [Zah k3] at hQ
  simp(disch:=omega)[cloR]
  exact hQ
def Zl2 (H:HM S) {x:Pb} (hx:x.ok) (hQ:Q [pb (dq (VaP x))] []):Gives S ZbF [.agg x.cs] [] Q:=by
 have g1:=Yh (as:=x.l) Con.row
 have g2:=Yh (as:=x.c) ZaU
 have g3:=hx.1.1
 have g4:=hx.2.1
 have no: ¬VaP x->Q [pb false] []:=fun h=>by rwa [Zaf h] at hQ
 refine .code H.ZnU rfl ?_
 simp(disch:=omega)[ZeK]
 by_cases h1:x.n<0
 ·simp(disch:=omega)[h1]
  exact no fun h=>by have:=h.1.1;omega
 by_cases h2:40<x.n
 ·simp(disch:=omega)[h1,h2]
  exact no fun h=>by have:=h.1.2.1;omega
 by_cases h3:8<x.c.length
 ·simp(disch:=omega)[h1,h2,h3]
  exact no fun h=>by have:=h.1.2.2.1;omega
 by_cases h4:80<x.l.length
 ·simp(disch:=omega)[h1,h2,h3,h4]
  exact no fun h=>by have:=h.1.2.2.2;omega
 simp(disch:=omega)[h1,h2,h3,h4]
 refine H.clo Zo ?_
 simp(disch:=omega)
 refine Lp.rule (fun (i:Nat)=>[(1,.a (.one (.ref ⟨true,10001,0⟩))),(3,.a (.one (.tip 10 ((x.l++chC (x.c.take i)).map Con.row)))),(32,.a (.one (.p (.sl 1 (x.c.map ZaU))))),(33,.a (pi x.c.length)),(34,.a (pi i)),(9999,.objs []),(10001,.a (.agg x.cs))])
  (fun i=>i<=x.c.length/\(∀ch∈x.c.take i,ChoP ch)/\(chC (x.c.take i)).length<=480*i) (fun i=>x.c.length-i) (a₀:=0) (by simp [chC]) ⟨Yd _,by simp,by simp [chC]⟩ ?_
 rintro i ⟨i1,i2,i3⟩
 by_cases hi:i<x.c.length
 ·have e1:=Zba (f:=ZaU) (l:=x.c) (j:=i) Zo
  have g5:=Yh (as:=x.c[i]) Alt.row
  simp(disch:=omega)[e1]
  by_cases q1:x.c[i].length<1
  ·simp(disch:=omega)[q1]
   exact no fun h=>by have:=(h.2.1 _ (Yl hi)).1;omega
  by_cases q2:6<x.c[i].length
  ·simp(disch:=omega)[q1,q2]
   exact no fun h=>by have:=(h.2.1 _ (Yl hi)).2.1;omega
  simp(disch:=omega)[q1,q2]
  refine Lp.rule (fun (k:Nat)=>[(1,.a (.one (.ref ⟨true,10001,0⟩))),(3,.a (.one (.tip 10 ((x.l++(chC (x.c.take i)++altC (x.c[i].take k))).map Con.row)))),(32,.a (.one (.p (.sl 1 (x.c.map ZaU))))),(33,.a (pi x.c.length)),(34,.a (pi i)),(46,.a (.one (.p (.sl 2 (x.c[i].map Alt.row))))),(47,.a (pi x.c[i].length)),(48,.a (pi k)),(9999,.objs []),(10001,.a (.agg x.cs))])
   (fun k=>k<=x.c[i].length/\(∀a∈x.c[i].take k,AlP a)/\(altC (x.c[i].take k)).length<=80*k) (fun k=>x.c[i].length-k) (a₀:=0) (by simp [altC]) ⟨Yd _,by simp,by simp [altC]⟩ ?_
  rintro k ⟨k1,k2,k3⟩
  by_cases hk:k<x.c[i].length
  ·have e2:=Zba (f:=Alt.row) (l:=x.c[i]) (j:=k) Zo
   have g6:=Yh (as:=x.c[i][k].l) Con.row
   have g7:=((hx.2.2 _ (Yl hi)).2 _ (Yl hk)).1
   simp(disch:=omega)[e2]
   by_cases w1:x.c[i][k].z<0
   ·simp(disch:=omega)[w1]
    exact no fun h=>by have:=((h.2.1 _ (Yl hi)).2.2 _ (Yl hk)).1;omega
   by_cases w2:9<x.c[i][k].z
   ·simp(disch:=omega)[w1,w2]
    exact no fun h=>by have:=((h.2.1 _ (Yl hi)).2.2 _ (Yl hk)).2;omega
   by_cases w3:80<x.c[i][k].l.length
   ·simp(disch:=omega)[w1,w2,w3]
    exact no fun h=>by have:=ZcX hi hk;have:=h.2.2.1;omega
   simp(disch:=omega)[w1,w2,w3]
   exact RdN.mk (k+1) (by rw [Zec hk];simp) ⟨hk,ZcJ hk k2 ⟨by omega,by omega⟩,by rw [Zec hk,YF];omega⟩ Zo
  ·simp(disch:=omega)
   have e:x.c[i].take k=x.c[i]:=Yg Zo
   rw [e] at k2 k3
   exact RdN.mk (i+1) (by rw [ZfK hi,e];simp) ⟨hi,ZcJ hi i2 ⟨by omega,by omega,k2⟩,by rw [ZfK hi,YF];omega⟩ Zo
 ·have e:x.c.take i=x.c:=Yg Zo
  rw [e] at i2 i3⊢
  have ea:x.l.map Con.row++(chC x.c).map Con.row=(allC x).map Con.row:=by simp [allC]
  have el:(allC x).length=x.l.length+(chC x.c).length:=by simp [allC]
  by_cases h5:(x.l.length:Int)+(chC x.c).length<=80
  ·simp(disch:=omega)[h5,ea,cloR]
   refine Zmn H (x:=x) Zo (ZuY hx) ?_
   by_cases h6: ∀c∈allC x,ConP x.n c
   ·rw [Zah h6]
    have:=el
    rw [Zah ⟨⟨by omega,by omega,by omega,by omega⟩,i2,by omega,h6⟩] at hQ
    simp(disch:=omega)
    exact hQ
   ·rw [Zaf h6]
    simp(disch:=omega)
    exact no fun h=>h6 h.2.2.2
  ·simp(disch:=omega)[h5]
   exact no fun h=>by have:=h.2.2.1;omega
def Zjd (H:HM S) {x:Pb} (hx:x.ok) (hQ:Q [pb (dq (VaP x))] []):Gives S Zeg [.agg x.cs] [] Q:=by
 have g1:=Yh (as:=x.l) Con.row
 have g2:=Yh (as:=x.c) ZaU
 have g3:=hx.1.1
 have g4:=hx.2.1
 have el:(allC x).length=x.l.length+(chC x.c).length:=by simp [allC]
 have no: ¬VaP x->Q [pb false] []:=fun h=>by rwa [Zaf h] at hQ
 refine .code H.ZtW rfl ?_
 simp(disch:=omega)[ZiQ]
 by_cases h1:x.n<0
 ·simp(disch:=omega)[h1]
  exact no fun h=>by have:=h.1.1;omega
 by_cases h2:40<x.n
 ·simp(disch:=omega)[h1,h2]
  exact no fun h=>by have:=h.1.2.1;omega
 by_cases h3:8<x.c.length
 ·simp(disch:=omega)[h1,h2,h3]
  exact no fun h=>by have:=h.1.2.2.1;omega
 by_cases h4:80<x.l.length
 ·simp(disch:=omega)[h1,h2,h3,h4]
  exact no fun h=>by have:=h.1.2.2.2;omega
 simp(disch:=omega)[h1,h2,h3,h4]
 refine Lp.rule (fun (i:Nat)=>[(1,.a (.one (.ref ⟨true,10001,0⟩))),(3,.a (pi (x.l.length+(chC (x.c.take i)).length:Nat))),(4,.a (pi i)),(9999,.objs []),(10001,.a (.agg x.cs))])
  (fun i=>i<=x.c.length/\(∀ch∈x.c.take i,ChoP ch)/\x.l.length+(chC (x.c.take i)).length<=80) (fun i=>x.c.length-i) (a₀:=0) (by simp [chC]) ⟨Yd _,by simp,by simp [chC];omega⟩ ?_
 rintro i ⟨i1,i2,i3⟩
 by_cases hi:i<x.c.length
 ·have e1:=Zba (f:=ZaU) (l:=x.c) (j:=i) Zo
  have g5:=Yh (as:=x.c[i]) Alt.row
  simp(disch:=omega)[e1]
  by_cases q1:x.c[i].length<1
  ·simp(disch:=omega)[q1]
   exact no fun h=>by have:=(h.2.1 _ (Yl hi)).1;omega
  by_cases q2:6<x.c[i].length
  ·simp(disch:=omega)[q1,q2,e1]
   exact no fun h=>by have:=(h.2.1 _ (Yl hi)).2.1;omega
  simp(disch:=omega)[q1,q2,e1]
  refine Lp.rule (fun (k:Nat)=>[(1,.a (.one (.ref ⟨true,10001,0⟩))),(3,.a (pi (x.l.length+((chC (x.c.take i)).length+(altC (x.c[i].take k)).length):Nat))),(4,.a (pi i)),(5,.a (pi k)),(9999,.objs []),(10001,.a (.agg x.cs))])
   (fun k=>k<=x.c[i].length/\(∀a∈x.c[i].take k,AlP a)/\x.l.length+((chC (x.c.take i)).length+(altC (x.c[i].take k)).length)<=80) (fun k=>x.c[i].length-k) (a₀:=0) (by simp [altC]) ⟨Yd _,by simp,by simp [altC];omega⟩ ?_
  rintro k ⟨k1,k2,k3⟩
  by_cases hk:k<x.c[i].length
  ·have e2:=Zba (f:=Alt.row) (l:=x.c[i]) (j:=k) Zo
   have g6:=Yh (as:=x.c[i][k].l) Con.row
   have g7:=((hx.2.2 _ (Yl hi)).2 _ (Yl hk)).1
   simp(disch:=omega)[e1,e2]
   by_cases w1:x.c[i][k].z<0
   ·simp(disch:=omega)[w1]
    exact no fun h=>by have:=((h.2.1 _ (Yl hi)).2.2 _ (Yl hk)).1;omega
   by_cases w2:9<x.c[i][k].z
   ·simp(disch:=omega)[w1,w2]
    exact no fun h=>by have:=((h.2.1 _ (Yl hi)).2.2 _ (Yl hk)).2;omega
   have w4:x.l.length+((chC (x.c.take i)).length+(altC (x.c[i].take k)).length)+x.c[i][k].l.length<=(allC x).length:=by
    have h1:=Zra (l:=x.c) (j:=i+1)
    have h2:=Zoo (l:=x.c[i]) (j:=k+1)
    rw [ZfK hi,YF] at h1
    rw [Zec hk,YF] at h2
    omega
   by_cases w3:x.l.length+((chC (x.c.take i)).length+(altC (x.c[i].take k)).length)+x.c[i][k].l.length<=80
   ·simp(disch:=omega)[w1,w2]
    exact RdN.mk (k+1) (by rw [Zec hk,YF];simp;omega) ⟨hk,ZcJ hk k2 ⟨by omega,by omega⟩,by rw [Zec hk,YF];omega⟩ Zo
   ·simp(disch:=omega)[w1,w2]
    exact no fun h=>by have:=h.2.2.1;omega
  ·simp(disch:=omega)[e1]
   have e:x.c[i].take k=x.c[i]:=Yg Zo
   rw [e] at k2 k3
   exact RdN.mk (i+1) (by rw [ZfK hi,e,YF];simp) ⟨hi,ZcJ hi i2 ⟨by omega,by omega,k2⟩,by rw [ZfK hi,YF];omega⟩ Zo
 ·have e:x.c.take i=x.c:=Yg Zo
  rw [e] at i2 i3⊢
  have hv:VaP x↔ ∀c∈allC x,ConP x.n c:=⟨fun h=>h.2.2.2,fun h=>⟨⟨by omega,by omega,by omega,by omega⟩,i2,by omega,h⟩⟩
  simp(disch:=omega)
  refine Lp.rule (fun (j:Nat)=>[(1,.a (.one (.ref ⟨true,10001,0⟩))),(7,.a (pi j)),(9999,.objs []),(10001,.a (.agg x.cs))]) (fun j=>j<=x.l.length/\ ∀c∈x.l.take j,ConP x.n c) (fun j=>x.l.length-j) (a₀:=0) Zs ⟨Yd _,by simp⟩ ?_
  rintro j ⟨k1,k2⟩
  by_cases hj:j<x.l.length
  ·have r1:=Zba (f:=Con.row) (l:=x.l) (j:=j) Zo
   simp(disch:=omega)[r1]
   refine ZuA H (hx.1.2 _ (Yl hj)) ?_
   by_cases hc:ConP x.n x.l[j]
   ·rw [Zah hc]
    simp(disch:=omega)
    exact RdN.mk (j+1) Zs ⟨hj,ZcJ hj k2 hc⟩ Zo
   ·rw [Zaf hc]
    simp(disch:=omega)
    exact no fun h=>hc (h.2.2.2 _ (List.mem_append_left _ (Yl hj)))
  ·have k3:=ZcN k2 Zo
   simp(disch:=omega)
   refine Lp.rule (fun (i:Nat)=>[(1,.a (.one (.ref ⟨true,10001,0⟩))),(8,.a (pi i)),(9999,.objs []),(10001,.a (.agg x.cs))]) (fun i=>i<=x.c.length/\ ∀ch∈x.c.take i,∀a∈ch,∀c∈a.l,ConP x.n c) (fun i=>x.c.length-i) (a₀:=0) Zs ⟨Yd _,by simp⟩ ?_
   rintro i ⟨i1,i4⟩
   by_cases hi:i<x.c.length
   ·have e1:=Zba (f:=ZaU) (l:=x.c) (j:=i) Zo
    have g5:=Yh (as:=x.c[i]) Alt.row
    have g8:=(hx.2.2 _ (Yl hi)).1
    simp(disch:=omega)[e1]
    refine Lp.rule (fun (k:Nat)=>[(1,.a (.one (.ref ⟨true,10001,0⟩))),(8,.a (pi i)),(9,.a (pi k)),(9999,.objs []),(10001,.a (.agg x.cs))]) (fun k=>k<=x.c[i].length/\ ∀a∈x.c[i].take k,∀c∈a.l,ConP x.n c) (fun k=>x.c[i].length-k) (a₀:=0) Zs ⟨Yd _,by simp⟩ ?_
    rintro k ⟨k1,k4⟩
    by_cases hk:k<x.c[i].length
    ·have e2:=Zba (f:=Alt.row) (l:=x.c[i]) (j:=k) Zo
     have g6:=Yh (as:=x.c[i][k].l) Con.row
     have ao:=(hx.2.2 _ (Yl hi)).2 _ (Yl hk)
     have g7:=ao.1
     simp(disch:=omega)[e1,e2]
     refine Lp.rule (fun (m:Nat)=>[(1,.a (.one (.ref ⟨true,10001,0⟩))),(8,.a (pi i)),(9,.a (pi k)),(10,.a (pi m)),(9999,.objs []),(10001,.a (.agg x.cs))]) (fun m=>m<=x.c[i][k].l.length/\ ∀c∈x.c[i][k].l.take m,ConP x.n c) (fun m=>x.c[i][k].l.length-m) (a₀:=0) Zs ⟨Yd _,by simp⟩ ?_
     rintro m ⟨m1,m2⟩
     by_cases hm:m<x.c[i][k].l.length
     ·have e3:=Zba (f:=Con.row) (l:=x.c[i][k].l) (j:=m) Zo
      simp(disch:=omega)[e1,e2,e3]
      refine ZuA H (ao.2 _ (Yl hm)) ?_
      by_cases hc:ConP x.n x.c[i][k].l[m]
      ·rw [Zah hc]
       simp(disch:=omega)
       exact RdN.mk (m+1) Zs ⟨hm,ZcJ hm m2 hc⟩ Zo
      ·rw [Zaf hc]
       simp(disch:=omega)
       exact no fun h=>hc (h.2.2.2 _ (List.mem_append_right _ (List.mem_flatMap.2 ⟨_,Yl hi,List.mem_flatMap.2 ⟨_,Yl hk,Yl hm⟩⟩)))
     ·have m3:=ZcN m2 Zo
      simp(disch:=omega)[e1,e2]
      exact RdN.mk (k+1) Zs ⟨hk,ZcJ hk k4 m3⟩ Zo
    ·have k5:=ZcN k4 Zo
     simp(disch:=omega)[e1]
     exact RdN.mk (i+1) Zs ⟨hi,ZcJ hi i4 k5⟩ Zo
   ·have i5:=ZcN i4 Zo
    rw [Zah (hv.2 fun c hc=>by
     rcases List.mem_append.1 hc with hc|hc
     ·exact k3 c hc
     ·obtain ⟨ch,h1,h2⟩:=List.mem_flatMap.1 hc
      obtain ⟨a,h3,h4⟩:=List.mem_flatMap.1 h2
      exact i5 ch h1 a h3 c h4)] at hQ
    simp(disch:=omega)
    exact hQ
def dec (c:Con):Bool:=decide (c.k=2)||decide (c.k=4)
def cnt (l:List Con):Nat:=(l.filter dec).length
def Zn1 {a b:List Con}:cnt (a++b)=cnt a+cnt b:=by simp [cnt]
def Zn9 {l:List Con} {j:Nat} (h:j<l.length):cnt (l.take (j+1))=cnt (l.take j)+(if dec l[j]=true then 1 else 0):=by
 rw [List.take_succ_eq_append_getElem h,Zn1]
 congr 1
 unfold cnt
 cases hd:dec l[j]<;>simp [hd]
def Zn8 (l:List Con):cnt l<=l.length:=List.length_filter_le _ _
def Zxe (H:Has S) {c:Con} (hQ:Q [pb (dec c)] []):Gives S ZbK [.agg c.cs] [] Q:=by
 refine .code H.ZjP rfl ?_
 simp(disch:=omega)[ZcS]
 unfold dec at hQ
 by_cases h1:c.k=2
 ·simp(disch:=omega)[h1] at hQ⊢
  exact hQ
 ·simp(disch:=omega)[h1] at hQ⊢
  exact hQ
def Zxq (H:Has S) {c:Con} (hQ:Q [pb (dec c)] []):Gives S Zdv [.agg c.cs] [] Q:=by
 refine .code H.ZnQ rfl ?_
 simp(disch:=omega)[ZeC]
 unfold dec at hQ
 by_cases h1:c.k=2
 ·simp(disch:=omega)[h1] at hQ⊢
  exact hQ
 ·simp(disch:=omega)[h1] at hQ⊢
  exact hQ
def Zsk (H:Has S) {l:List Con} (hl:l.length<=100000) (hQ:Q [pi (cnt l)] []):Gives S Zbk [.one (.p (.sl 10 (l.map Con.row)))] [] Q:=by
 have g:=Yh (as:=l) Con.row
 refine .code H.ZmH rfl ?_
 simp(disch:=omega)[ZdD]
 refine Lp.rule (fun (j:Nat)=>[(3,.a (pi (cnt (l.take j)))),(6,.a (.one (.p (.sl 10 (l.map Con.row))))),(7,.a (pi l.length)),(8,.a (pi j)),(9999,.objs [])]) (fun j=>j<=l.length) (fun j=>l.length-j) (a₀:=0) (by simp [cnt]) (Yd _) ?_
 intro j k1
 have hc:=Zn8 (l.take j)
 rw [List.length_take] at hc
 by_cases hj:j<l.length
 ·have e:=Zba (f:=Con.row) (l:=l) (j:=j) Zo
  have ht:=Zn9 hj
  simp(disch:=omega)[e]
  refine Zxe H ?_
  cases hd:dec l[j]
  ·simp [hd] at ht
   simp(disch:=omega)
   exact RdN.mk (j+1) (by rw [ht];simp) hj Zo
  ·simp [hd] at ht
   simp(disch:=omega)
   exact RdN.mk (j+1) (by rw [ht];simp) hj Zo
 ·rw [Yg Zo]
  simp(disch:=omega)
  exact hQ
def ZuN (H:Has S) {l:List Con} (hl:l.length<=100000) (hQ:Q [pi (cnt l)] []):Gives S Zby [.one (.p (.sl 10 (l.map Con.row)))] [] Q:=by
 have g:=Yh (as:=l) Con.row
 refine .code H.ZkR rfl ?_
 simp(disch:=omega)[Zdf]
 refine Lp.rule (fun (j:Nat)=>[(0,.a (.one (.p (.sl 10 (l.map Con.row))))),(3,.a (pi (cnt (l.take j)))),(4,.a (pi j)),(9999,.objs [])]) (fun j=>j<=l.length) (fun j=>l.length-j) (a₀:=0) (by simp [cnt]) (Yd _) ?_
 intro j k1
 have hc:=Zn8 (l.take j)
 rw [List.length_take] at hc
 by_cases hj:j<l.length
 ·have e:=Zba (f:=Con.row) (l:=l) (j:=j) Zo
  have ht:=Zn9 hj
  simp(disch:=omega)[e]
  refine Zxq H ?_
  cases hd:dec l[j]
  ·simp [hd] at ht
   simp(disch:=omega)
   exact RdN.mk (j+1) (by rw [ht];simp) hj Zo
  ·simp [hd] at ht
   simp(disch:=omega)
   exact RdN.mk (j+1) (by rw [ht];simp) hj Zo
 ·rw [Yg Zo]
  simp(disch:=omega)
  exact hQ
def ZqV {k:Nat} (h:k<=40):shlP .i64 1 (k:Int)=some (.int .i64 ((2 ^ k:Nat):Int)):=by
 unfold shlP
 rw [if_neg Zo]
 have e:min (k:Int).toNat (IntKind.bits .i64)=k:=by
  have:IntKind.bits .i64=64:=rfl
  omega
 have h2:2 ^ k<=2 ^ 40:=Nat.pow_le_pow_right Zd h
 have h3:(2:Nat) ^ 40=1099511627776:=by decide
 have h4:(1:Int)*2 ^ k=((2 ^ k:Nat):Int):=by simp
 rw [e,h4]
 generalize (2 ^ k:Nat)=m at h2
 rw [Zfa Zo Zo]
def Zvf {x y:Int}:ZcM .shl .i64 x y=shlP .i64 x y:=rfl
def Zzp (H:Has S) {n:Nat} (hn:n<=100000) (hQ:Q [pi (pw n)] []):Gives S ZbR [pi n] [] Q:=by
 refine .code H.ZmY rfl ?_
 simp(disch:=omega)[ZdX]
 have e:(if (20:Int)<(n:Int) then (20:Int) else n)=((min n 20:Nat):Int):=by split<;>omega
 rw [e,Zvf,ZqV Zo]
 have h2:2 ^ min n 20<=2 ^ 20:=Nat.pow_le_pow_right Zd Zo
 have h3:(2:Nat) ^ 20=1048576:=by decide
 obtain ⟨m,hm⟩: ∃m,m=2 ^ min n 20:=⟨_,rfl⟩
 have e2:(if (5001:Int)<(m:Int) then (5001:Int) else m)=(pw n:Int):=by unfold pw;rw [<-hm];split<;>omega
 rw [<-hm]
 simp(disch:=omega)[e2]
 exact hQ
def cnts (c:List (List Alt)):List (List Nat):=c.map fun ch=>ch.map fun a=>cnt a.l
def Zlo {c:List (List Alt)} {i:Nat} (h:i<c.length):(cnts c)[i]'(by simpa [cnts] using h)=c[i].map fun a=>cnt a.l:=by simp [cnts]
def smA (l:List Alt) (k:Nat):Nat:=sm ((l.take k).map fun a=>cnt a.l)
def Zrd {l:List Alt} {k:Nat} (h:k<l.length):smA l (k+1)=smA l k+pw (cnt l[k].l):=by
 unfold smA
 rw [List.take_succ_eq_append_getElem h,YC];simp only [sm,YC,List.sum_append,Yp,List.map_nil,List.sum_cons,List.sum_nil,Nat.add_zero]
def Zzt (n:Nat):pw n<=5001:=by unfold pw;omega
def satN (d:Nat) (c:List (List Alt)):Nat:=(cnts c).foldl Ztv (pw d)
def satA (d:Nat) (c:List (List Alt)) (i:Nat):Nat:=satN d (c.take i)
def ZpJ {d:Nat} {c:List (List Alt)} {i:Nat} (h:i<c.length):satA d c (i+1)=min (satA d c i*smA c[i] c[i].length) 5001:=by
 unfold satA satN cnts smA
 rw [List.take_succ_eq_append_getElem h,YC,List.foldl_append,List.take_length];rfl
def Zu6 {d:Nat} {c:List (List Alt)}:satN d c<=5001:=by
 have: ∀(l:List (List Nat)) (a:Nat),a<=5001->l.foldl Ztv a<=5001:=by
  intro l
  induction l with
  | nil=>exact fun a h=>h
  | cons x l ih=>exact fun a _=>ih _ (by unfold Ztv;omega)
 exact this _ _ (Zzt d)
def TotP (x:Pb):Nat:=Tot (cnt x.l) (cnts x.c)
def Zt2 (H:HM S) {x:Pb} (hx:x.ok) (hQ1: ¬VaP x->Q [pi 0,pi 4] []) (hQ2:VaP x->TotP x<=5000->Q [pi (TotP x),pi 0] []) (hQ3:VaP x-> ¬TotP x<=5000->Q [pi 0,pi 2] []):Gives S Za5 [.agg x.cs] [] Q:=by
 have g1:=Yh (as:=x.l) Con.row
 have g2:=Yh (as:=x.c) ZaU
 refine .code H.Zgc rfl ?_
 simp(disch:=omega)[Zbr]
 refine Zl2 H hx ?_
 by_cases hv:VaP x
 rotate_left
 ·rw [Zaf hv]
  simp(disch:=omega)
  exact hQ1 hv
 rw [Zah hv]
 have hn: ∀ch∈cnts x.c,ch≠[]:=fun ch hc=>by
  obtain ⟨l,hl,rfl⟩:=List.mem_map.1 hc
  have:=(hv.2.1 l hl).1
  intro h0
  rw [List.map_eq_nil_iff] at h0
  subst h0
  simp at this
 have hs:satN (cnt x.l) x.c=min (TotP x) 5001:=ZuV hn
 have hb:=hv.1
 simp(disch:=omega)
 refine Zsk H.toHas Zo ?_
 have hc:=Zn8 x.l
 simp(disch:=omega)
 refine Zzp H.toHas Zo ?_
 simp(disch:=omega)
 refine Lp.rule (fun (i:Nat)=>[(4,.a (pi (satA (cnt x.l) x.c i))),(18,.a (.one (.p (.sl 1 (x.c.map ZaU))))),(19,.a (pi x.c.length)),(20,.a (pi i)),(9999,.objs [])]) (fun i=>i<=x.c.length) (fun i=>x.c.length-i) (a₀:=0) (by simp [satA,satN,cnts]) (Yd _) ?_
 intro i i1
 have l1:satA (cnt x.l) x.c i<=5001:=Zu6
 by_cases hi:i<x.c.length
 ·have e1:=Zba (f:=ZaU) (l:=x.c) (j:=i) Zo
  have g5:=Yh (as:=x.c[i]) Alt.row
  have hch:=hv.2.1 _ (Yl hi)
  have g8:=hch.2.1
  simp(disch:=omega)[e1]
  refine Lp.rule (fun (k:Nat)=>[(4,.a (pi (satA (cnt x.l) x.c i))),(7,.a (pi (smA x.c[i] k))),(18,.a (.one (.p (.sl 1 (x.c.map ZaU))))),(19,.a (pi x.c.length)),(20,.a (pi i)),(24,.a (.one (.p (.sl 2 (x.c[i].map Alt.row))))),(25,.a (pi x.c[i].length)),(26,.a (pi k)),(9999,.objs [])])
   (fun k=>k<=x.c[i].length/\smA x.c[i] k<=5001*k) (fun k=>x.c[i].length-k) (a₀:=0) (by simp [smA,sm]) ⟨Yd _,by simp [smA,sm]⟩ ?_
  rintro k ⟨k1,k2⟩
  by_cases hk:k<x.c[i].length
  ·have e2:=Zba (f:=Alt.row) (l:=x.c[i]) (j:=k) Zo
   have g6:=Yh (as:=x.c[i][k].l) Con.row
   have l2:=Zzt (cnt x.c[i][k].l)
   have l3:=ZcX hi hk
   have l4:=hv.2.2.1
   have l5:=Zn8 x.c[i][k].l
   simp(disch:=omega)[e2]
   refine Zsk H.toHas Zo ?_
   simp(disch:=omega)
   refine Zzp H.toHas Zo ?_
   simp(disch:=omega)
   exact RdN.mk (k+1) (by rw [Zrd hk];simp) ⟨hk,by rw [Zrd hk];omega⟩ Zo
  ·obtain rfl:k=x.c[i].length:=by omega
   have l6:satA (cnt x.l) x.c i*smA x.c[i] x.c[i].length<=5001*(5001*6):=Nat.mul_le_mul l1 (Yy k2 (Nat.mul_le_mul_left _ Zo))
   obtain ⟨m,hm⟩: ∃m,m=satA (cnt x.l) x.c i*smA x.c[i] x.c[i].length:=⟨_,rfl⟩
   have l7:((satA (cnt x.l) x.c i:Nat):Int)*(smA x.c[i] x.c[i].length:Nat)=(m:Int):=by rw [hm];simp
   have l8:(if (5001:Int)<(m:Int) then (5001:Int) else m)=(satA (cnt x.l) x.c (i+1):Int):=by rw [ZpJ hi,<-hm];split<;>omega
   rw [<-hm] at l6
   simp(disch:=omega)[l7,l8]
   exact RdN.mk (i+1) Zs hi Zo
 ·have e:x.c.take i=x.c:=Yg Zo
  have e2:satA (cnt x.l) x.c i=min (TotP x) 5001:=by unfold satA;rw [e];exact hs
  rw [e2]
  by_cases ht:TotP x<=5000
  ·have:min (TotP x) 5001=TotP x:=by omega
   rw [this]
   simp(disch:=omega)
   exact hQ2 hv ht
  ·have:min (TotP x) 5001=5001:=by omega
   rw [this]
   simp(disch:=omega)
   exact hQ3 hv ht
def Zdy (c:List (List Alt)) (q:List Int):Prop:=q.length=c.length/\ ∀(i:Nat) (h:i<q.length) (h':i<c.length),0<=q[i]/\q[i]<c[i].length
def ZhF:List (List Alt)->List Int->List Con
 | ch::cs,k::p=>(match ch[k.toNat]? with
   | some a=>a.l
   | none=>[])++ZhF cs p
 | _,_=>[]
theorem Znn: ∀{c:List (List Alt)} {q:List Int} {ch:List Alt} {k:Int},c.length=q.length->ZhF (c++[ch]) (q++[k])=ZhF c q++(match ch[k.toNat]? with
    | some a=>a.l
    | none=>[])
  | [],[],_,_,_=>by simp [ZhF]
  | x::c,y::q,ch,k,h=>by
    have:=Znn (c:=c) (q:=q) (ch:=ch) (k:=k) (by simpa using h)
    simp [ZhF,this]
  | [],_::_,_,_,h=>by simp at h
  | _::_,[],_,_,h=>by simp at h
def ZkE (c:List (List Alt)) (q:List Int) (i:Nat):List Con:=ZhF (c.take i) (q.take i)
def Ze2 {c:List (List Alt)} {q:List Int} {i:Nat} (h:i<c.length) (h':i<q.length) (h0:q[i].toNat<c[i].length):ZkE c q (i+1)=ZkE c q i++c[i][q[i].toNat].l:=by
 unfold ZkE
 rw [List.take_succ_eq_append_getElem h,List.take_succ_eq_append_getElem h',Znn Ze,Ya h0]
def Zln {c:List (List Alt)} {q:List Int} (h:q.length=c.length):ZkE c q c.length=ZhF c q:=by
 unfold ZkE
 rw [List.take_length,Yg Zo]
def Zy4 (H:HM S) {x:Pb} {q:List Int} (hv:VaP x) (hp:Zdy x.c q) (hQ:Q [.one (.p (.sl 10 ((x.l++ZhF x.c q).map Con.row)))] []):Gives S ZgP [.agg x.cs,.one (.p (.sl 1 (ints q)))] [] Q:=by
 have g1:=Yh (as:=x.l) Con.row
 have g2:=Yh (as:=x.c) ZaU
 have g3:=ZaK (l:=q)
 have hb:=hv.1
 have hl:=hp.1
 refine .code H.ZxQ rfl ?_
 simp(disch:=omega)[Zk6]
 refine Lp.rule (fun (i:Nat)=>[(1,.a (.one (.p (.sl 1 (ints q))))),(2,.a (.one (.ref ⟨true,10002,0⟩))),(5,.a (.one (.tip 10 ((x.l++ZkE x.c q i).map Con.row)))),(6,.a (pi i)),(9999,.objs []),(10002,.a (.agg x.cs))]) (fun i=>i<=x.c.length/\(ZkE x.c q i).length<=80*i) (fun i=>x.c.length-i) (a₀:=0) (by simp [ZkE,ZhF]) ⟨Yd _,by simp [ZkE,ZhF]⟩ ?_
 rintro i ⟨i1,i2⟩
 by_cases hi:i<x.c.length
 ·have e1:=Zba (f:=ZaU) (l:=x.c) (j:=i) Zo
  have e3:=ZfI (l:=q) (j:=i) Zo
  have g5:=Yh (as:=x.c[i]) Alt.row
  obtain ⟨p1,p2⟩:=hp.2 i Zo hi
  have hk:q[i].toNat<x.c[i].length:=by omega
  have e2:=Zba (f:=Alt.row) (l:=x.c[i]) (j:=q[i].toNat) Zo
  have g6:=Yh (as:=x.c[i][q[i].toNat].l) Con.row
  have l3:=ZcX hi hk
  have l4:=hv.2.2.1
  have g8:=(hv.2.1 _ (Yl hi)).2.1
  simp(disch:=omega)[e1,e2,e3]
  exact RdN.mk (i+1) (by rw [Ze2 hi Zo hk];simp) ⟨hi,by rw [Ze2 hi Zo hk,YF];omega⟩ Zo
 ·obtain rfl:i=x.c.length:=by omega
  rw [Zln hl]
  simp(disch:=omega)
  simpa using hQ
def natI (p:List Nat):List Int:=p.map fun k:Nat=>(k:Int)
def Zc4 {p:List Nat}:(natI p).length=p.length:=by simp [natI]
def ZnL: ∀{c:List (List Alt)} {p:List Nat},ZoG (cnts c) p->cnt (ZhF c (natI p))=sumP (cnts c) p
 | [],[],_=>rfl
 | ch::c,k::p,h=>by
   have ih:=ZnL (c:=c) (p:=p) h.2
   have hk:k<ch.length:=by have:=h.1;simpa using this
   simp only [natI,Yp,ZhF,Int.toNat_natCast,Ya hk,Zn1]
   rw [show (List.map (fun k:Nat=>(k:Int)) p)=natI p from rfl,ih]
   simp only [cnts,Yp,sumP]
   congr 1
   simp [List.getD,hk]
 | [],_::_,h=>h.elim
 | _::_,[],h=>h.elim
def Zkl: ∀{cs:List (List Nat)} {p:List Nat} (_:ZoG cs p) (i:Nat) (h:i<p.length) (h':i<cs.length),p[i]<cs[i].length
 | ch::cs,k::p,hf,0,_,_=>hf.1
 | ch::cs,k::p,hf,i+1,h,h'=>Zkl (cs:=cs) (p:=p) hf.2 i (by simpa using h) (by simpa using h')
 | [],[],_,i,h,_=>by simp at h
 | [],_::_,hf,_,_,_=>hf.elim
 | _::_,[],hf,_,_,_=>hf.elim
def Zd9 {c:List (List Alt)}:(cnts c).length=c.length:=by simp [cnts]
def Zms {c:List (List Alt)} {p:List Nat} (h:ZoG (cnts c) p):Zdy c (natI p):=by
 have hl:=Zlj h
 rw [Zd9] at hl
 refine ⟨by simpa [natI] using hl,fun i h1 h2=>?_⟩
 rw [Zc4] at h1
 have:=Zkl h i h1 (by rw [Zd9];exact h2)
 rw [Zlo h2] at this
 simp [natI] at this⊢
 exact this
def Zqo (H:HM S) {x:Pb} {q:List Int} (hq:q.length<=9223372036854775807) (hv:VaP x) (hQ:Q [pb (dq (Zdy x.c q))] []):Gives S Zej [.agg x.cs,.one (.p (.sl 1 (ints q)))] [] Q:=by
 have g1:=Yh (as:=x.l) Con.row
 have g2:=Yh (as:=x.c) ZaU
 have g3:=ZaK (l:=q)
 have hb:=hv.1
 have no: ¬Zdy x.c q->Q [pb false] []:=fun h=>by rwa [Zaf h] at hQ
 refine .code H.Zqb rfl ?_
 simp(disch:=omega)[ZfL]
 by_cases hl:q.length=x.c.length
 rotate_left
 ·simp(disch:=omega)[hl]
  exact no fun h=>hl h.1
 simp(disch:=omega)[hl]
 refine Lp.rule (fun (i:Nat)=>[(1,.a (.one (.p (.sl 1 (ints q))))),(2,.a (.one (.ref ⟨true,10002,0⟩))),(5,.a (pi i)),(9999,.objs []),(10002,.a (.agg x.cs))]) (fun i=>i<=x.c.length/\ ∀(j:Nat) (h:j<q.length) (h':j<x.c.length),j<i->0<=q[j]/\q[j]<x.c[j].length) (fun i=>x.c.length-i) (a₀:=0) Zs ⟨Yd _,fun j _ _ h=>by omega⟩ ?_
 rintro i ⟨i1,i2⟩
 by_cases hi:i<x.c.length
 ·have e1:=Zba (f:=ZaU) (l:=x.c) (j:=i) Zo
  have e3:=ZfI (l:=q) (j:=i) Zo
  have g5:=Yh (as:=x.c[i]) Alt.row
  have g8:=(hv.2.1 _ (Yl hi)).2.1
  by_cases w1:q[i]<0
  ·simp(disch:=omega)[e1,e3,w1]
   exact no fun h=>by have:=h.2 i Zo hi;omega
  by_cases w2:q[i]<x.c[i].length
  ·simp(disch:=omega)[e1,e3,w1,w2]
   exact RdN.mk (i+1) Zs ⟨hi,fun j h h' hj=>by
    rcases Yt j i with h1|h1
    ·exact i2 j h h' h1
    ·obtain rfl:j=i:=by omega
     exact ⟨by omega,w2⟩⟩ Zo
  ·simp(disch:=omega)[e1,e3,w1,w2]
   exact no fun h=>by have:=h.2 i Zo hi;omega
 ·rw [Zah ⟨hl,fun j h h'=>i2 j h h' Zo⟩] at hQ
  simp(disch:=omega)
  exact hQ
def ZqG (H:HM S) {x:Pb} {q:List Int} (hq:q.length<=9223372036854775807) (hv:VaP x) (hQ0: ¬Zdy x.c q->Q [.one (.p (.sl 10 [])),pb false] []) (hQ:Zdy x.c q->Q [.one (.p (.sl 10 ((x.l++ZhF x.c q).map Con.row))),pb true] []):
  Gives S Zca [.agg x.cs,.one (.p (.sl 1 (ints q)))] [] Q:=by
 have g1:=Yh (as:=x.l) Con.row
 have g2:=Yh (as:=x.c) ZaU
 have g3:=ZaK (l:=q)
 have hb:=hv.1
 refine .code H.ZkB rfl ?_
 simp(disch:=omega)[Zc9]
 by_cases hl:q.length=x.c.length
 rotate_left
 ·simp(disch:=omega)[hl]
  exact hQ0 fun h=>hl h.1
 simp(disch:=omega)[hl]
 refine H.clo Zo ?_
 simp(disch:=omega)
 refine Lp.rule (fun (i:Nat)=>[(2,.a (.one (.ref ⟨true,10002,0⟩))),(6,.a (.one (.tip 10 ((x.l++ZkE x.c q i).map Con.row)))),(18,.a (.one (.p (.sl 1 (ints q))))),(19,.a (pi x.c.length)),(20,.a (pi i)),(9999,.objs []),(10002,.a (.agg x.cs))]) (fun i=>i<=x.c.length/\(ZkE x.c q i).length<=80*i/\ ∀(j:Nat) (h:j<q.length) (h':j<x.c.length),j<i->0<=q[j]/\q[j]<x.c[j].length) (fun i=>x.c.length-i) (a₀:=0) (by simp [ZkE,ZhF,g3,hl]) ⟨Yd _,by simp [ZkE,ZhF],fun j _ _ h=>by omega⟩ ?_
 rintro i ⟨i1,i3,i2⟩
 by_cases hi:i<x.c.length
 ·have e1:=Zba (f:=ZaU) (l:=x.c) (j:=i) Zo
  have e3:=ZfI (l:=q) (j:=i) Zo
  have g5:=Yh (as:=x.c[i]) Alt.row
  have g8:=(hv.2.1 _ (Yl hi)).2.1
  by_cases w1:q[i]<0
  ·simp(disch:=omega)[e1,e3,w1]
   exact hQ0 fun h=>by have:=h.2 i Zo hi;omega
  by_cases w2:q[i]<x.c[i].length
  ·have hk:q[i].toNat<x.c[i].length:=by omega
   have e2:=Zba (f:=Alt.row) (l:=x.c[i]) (j:=q[i].toNat) Zo
   have g6:=Yh (as:=x.c[i][q[i].toNat].l) Con.row
   have l3:=ZcX hi hk
   have l4:=hv.2.2.1
   simp(disch:=omega)[e1,e2,e3,w1,w2]
   exact RdN.mk (i+1) (by rw [Ze2 hi Zo hk];simp) ⟨hi,by rw [Ze2 hi Zo hk,YF];omega,fun j h h' hj=>by
    rcases Yt j i with h1|h1
    ·exact i2 j h h' h1
    ·obtain rfl:j=i:=by omega
     exact ⟨by omega,w2⟩⟩ Zo
  ·simp(disch:=omega)[e1,e3,w1,w2]
   exact hQ0 fun h=>by have:=h.2 i Zo hi;omega
 ·obtain rfl:i=x.c.length:=by omega
  rw [Zln hl]
  simp(disch:=omega)
  simpa using hQ ⟨hl,fun j h h'=>i2 j h h' Zo⟩
end Go.Am.Fe
end
section
namespace Go.Am.Fe
variable {S:Nat->Option Fn} {Q:List A->List (List C)->Prop}
attribute [local simp] Zfa if_pos if_neg decide_eq_true decide_eq_false Yi Yj Zmo Ops.callv List.idxOf?_cons Zcs Zhp
def Ziv {x:Pb} {q:List Int} (hv:VaP x) (hp:Zdy x.c q):(x.l++ZhF x.c q).length<=1000:=by
 have hb:=hv.1
 have key: ∀i,i<=x.c.length->(ZkE x.c q i).length<=80*i:=by
   intro i
   induction i with
   | zero=>intro _;simp [ZkE,ZhF]
   | succ i ih=>
     intro hi
     have h1:=ih Zo
     obtain ⟨p1,p2⟩:=hp.2 i (by have:=hp.1;omega) hi
     have hk:q[i]'(by have:=hp.1;omega)<x.c[i].length:=p2
     rw [Ze2 Zo (by have:=hp.1;omega) Zo,YF]
     have l3:=ZcX (x:=x) (i:=i) (k:=(q[i]'(by have:=hp.1;omega)).toNat) Zo Zo
     have l4:=hv.2.2.1
     omega
 have:=key x.c.length (Yc _)
 rw [Zln hp.1] at this
 rw [YF];omega
def Zun (H:HM S) {x:Pb} {q:List Int} (hx:x.ok) (hq:q.length<=9223372036854775807) (hQ1: ¬VaP x->Q [pi 0,pi 4] []) (hQ2:VaP x-> ¬Zdy x.c q->Q [pi 0,pi 1] []) (hQ3:VaP x->Zdy x.c q->Q [pi (cnt (x.l++ZhF x.c q)),pi 0] []):
  Gives S Zd3 [.agg x.cs,.one (.p (.sl 1 (ints q)))] [] Q:=by
 refine .code H.Zp9 rfl ?_
 simp(disch:=omega)[ZfT]
 refine Zjd H hx ?_
 by_cases hv:VaP x
 ·rw [Zah hv]
  simp(disch:=omega)
  refine Zqo H hq hv ?_
  by_cases hp:Zdy x.c q
  ·rw [Zah hp]
   simp(disch:=omega)
   refine Zy4 H hv hp ?_
   simp(disch:=omega)
   rw [<-YC]
   have:=Ziv hv hp
   refine ZuN H.toHas Zo ?_
   simp(disch:=omega)
   exact hQ3 hv hp
  ·rw [Zaf hp]
   simp(disch:=omega)
   exact hQ2 hv hp
 ·rw [Zaf hv]
  simp(disch:=omega)
  exact hQ1 hv
def ZvR (H:HM S) {x:Pb} {q:List Int} (hx:x.ok) (hq:q.length<=9223372036854775807) (hQ1: ¬VaP x->Q [pi 0,pi 4] []) (hQ2:VaP x-> ¬Zdy x.c q->Q [pi 0,pi 1] []) (hQ3:VaP x->Zdy x.c q->Q [pi (cnt (x.l++ZhF x.c q)),pi 0] []):
  Gives S Zb9 [.agg x.cs,.one (.p (.sl 1 (ints q)))] [] Q:=by
 refine .code H.Zkp rfl ?_
 simp(disch:=omega)[Zdm]
 refine Zl2 H hx ?_
 by_cases hv:VaP x
 ·rw [Zah hv]
  simp(disch:=omega)
  refine ZqG H hq hv (fun hp=>?_) (fun hp=>?_)
  ·simp(disch:=omega)
   exact hQ2 hv hp
  ·simp(disch:=omega)
   rw [<-YC]
   have:=Ziv hv hp
   refine Zsk H.toHas Zo ?_
   simp(disch:=omega)
   exact hQ3 hv hp
 ·rw [Zaf hv]
  simp(disch:=omega)
  exact hQ1 hv
def Zxo (H:Has S) {l:List Int} (hl:l.length<=1000) (hQ:Q [.one (.uniq 1 (ints l))] []):Gives S Zdl [.one (.p (.sl 1 (ints l)))] [] Q:=by
 have g3:=ZaK (l:=l)
 refine .code H.Zot rfl ?_
 simp(disch:=omega)[ZeJ]
 refine Lp.rule (fun (j:Nat)=>[(0,.a (.one (.p (.sl 1 (ints l))))),(3,.a (.one (.uniq 1 (ints (l.take j))))),(4,.a (pi j)),(9999,.objs [])]) (fun j=>j<=l.length) (fun j=>l.length-j) (a₀:=0) (by simp [ints]) (Yd _) ?_
 intro j k1
 have g4:=ZaK (l:=l.take j)
 have g5:=List.length_take (i:=j) (l:=l)
 by_cases hj:j<l.length
 ·have e:=ZfI (l:=l) (j:=j) Zo
  simp(disch:=omega)[e]
  exact RdN.mk (j+1) (by rw [List.take_succ_eq_append_getElem hj,ZiC];simp) hj Zo
 ·rw [Yg Zo]
  simp(disch:=omega)
  exact hQ
def outN (p:List Nat) (j:Nat):List Int:=natI (p.take j++List.replicate (p.length-j) 0)
def ZhQ {p:List Nat} {j:Nat} (h:j<=p.length):(outN p j).length=p.length:=by simp [outN,natI];omega
def ZrK {p:List Nat} {j:Nat} (h:j<p.length):(outN p (j+1))[j]'(by rw [ZhQ h];exact h)=(p[j]:Int):=by
 simp only [outN,natI,List.getElem_map]
 rw [List.getElem_append_left Ze]
 simp
def Zrn {a c:List Int} {b x:Int} {n:Nat} (h:a.length=n):(a++b::c).set n x=a++x::c:=by subst h;simp [List.set_append]
def ZkZ {a b:List Nat}:natI (a++b)=natI a++natI b:=by simp [natI]
def Zp0 {a:Nat} {b:List Nat}:natI (a::b)=(a:Int)::natI b:=rfl
def ZlN {p:List Nat} {j:Nat} (h:j<p.length):outN p (j+1)=natI (p.take j)++(p[j]:Int)::natI (List.replicate (p.length-(j+1)) 0):=by
 unfold outN
 rw [List.take_succ_eq_append_getElem h,Yu,ZkZ];rfl
def Zqn {p:List Nat} {j:Nat} (h:j<p.length):(outN p (j+1)).set j 0=outN p j:=by
 rw [ZlN h,Zrn (by rw [Zc4,List.length_take];omega)]
 unfold outN
 rw [ZkZ,show p.length-j=(p.length-(j+1))+1 by omega,List.replicate_succ];rfl
def Zvl {p:List Nat} {j:Nat} (h:j<p.length):(outN p (j+1)).set j ((p[j]:Int)+1)=natI (p.take j++(p[j]+1)::List.replicate (p.length-(j+1)) 0):=by
 rw [ZlN h,Zrn (by rw [Zc4,List.length_take];omega),ZkZ,Zp0];simp
def ZvB {k κ n:Nat} {e:Env} {l:List Int} (h:l.length=n):Zq7 k 0 κ 1 e (.a (.one (.own ⟨true,κ,0⟩ 1 n))) (.a (.agg (Zfr l)))=(k,.a (.one (.uniq 1 (ints l))))::(κ,.undef)::e:=by subst h;exact ZcF
def ZxC (H:HM S) {x:Pb} {p:List Nat} (hv:VaP x) (hf:ZoG (cnts x.c) p) (hQ1: ∀q,Zif (cnts x.c) p=some q->Q [.one (.tip 1 (ints (natI q))),pb true] []) (hQ0:Zif (cnts x.c) p=none->Q [.one (.tip 1 []),pb false] []):
  Gives S Zgn [.agg x.cs,.one (.p (.sl 1 (ints (natI p))))] [] Q:=by
 have g2:=Yh (as:=x.c) ZaU
 have hb:=hv.1
 have hl:=Zlj hf
 have hl2:=Zd9 (c:=x.c)
 refine .code H.Zt8 rfl ?_
 simp(disch:=omega)[ZiJ]
 refine Zxo H.toHas (by rw [Zc4];omega) ?_
 have g3:=ZaK (l:=natI p)
 have g4:=Zc4 (p:=p)
 simp(disch:=omega)
 refine Lp.rule (fun (j:Nat)=>[(2,.a (.one (.ref ⟨true,10002,0⟩))),(6,.a (.one (.uniq 1 (ints (outN p j))))),(7,.a (pi ((j:Int)-1))),(9999,.objs []),(10002,.a (.agg x.cs))]) (fun j=>j<=p.length/\Zif ((cnts x.c).drop j) (p.drop j)=none) (fun j=>j) (a₀:=p.length) (by simp [outN,g3,g4]) ⟨Yc _,by rw [List.drop_eq_nil_of_le Zo,List.drop_eq_nil_of_le Zo];rfl⟩ ?_
 rintro j ⟨k1,k2⟩
 by_cases hj:0<j
 ·obtain ⟨i,rfl⟩: ∃i,j=i+1:=⟨j-1,by omega⟩
  have hi:i<p.length:=by omega
  have o1:=ZhQ (p:=p) (j:=i+1) k1
  have o2:=ZrK hi
  have o3:=ZaK (l:=outN p (i+1))
  have hic:i<x.c.length:=by omega
  have e1:=Zba (f:=ZaU) (l:=x.c) (j:=i) Zo
  have g5:=Yh (as:=x.c[i]) Alt.row
  have g8:=(hv.2.1 _ (Yl hic)).2.1
  have nx:=Zux hl (by omega:i<(cnts x.c).length) k2
  rw [Zlo hic,Yh] at nx
  have fg:=Zkl hf i hi Zo
  rw [Zlo hic,Yh] at fg
  have o4:((outN p (i+1)).set i ((p[i]:Int)+1)).length=p.length:=by rw [List.length_set,o1]
  have o5:((outN p (i+1)).set i 0).length=p.length:=by rw [List.length_set,o1]
  by_cases hk:p[i]+1<x.c[i].length
  ·rw [if_pos hk] at nx
   have nw:=ZoB hl (by omega:i<=(cnts x.c).length) nx
   have hk':(p[i]:Int)+1<x.c[i].length:=by omega
   simp(disch:=omega)[ZcA,ZvB,ZbH,Zcl,ZbD,ZiL,e1,o1,o2,hk']
   rw [Zvl hi]
   have:=hQ1 _ nw
   rwa [show (cnts x.c).length-(i+1)=p.length-(i+1) by omega] at this
  ·rw [if_neg hk] at nx
   have hk': ¬(p[i]:Int)+1<x.c[i].length:=by omega
   simp(disch:=omega)[ZcA,ZvB,ZbH,Zcl,ZbD,ZiL,e1,o1,o2,hk']
   exact RdN.mk i (by rw [Zqn hi]) ⟨by omega,nx⟩ Zo
 ·obtain rfl:j=0:=by omega
  simp(disch:=omega)
  exact hQ0 (by simpa using k2)
def ZrL {n:Nat} (h:n<=100000):IntKind.u64.wrap (n:Int)=n:=by
 unfold IntKind.wrap IntKind.bits IntKind.signed
 simp
 omega
theorem Zrf (H:HM S) {x:Pb} (hx:x.ok) (hQ1: ¬VaP x->Q [pi 0,pi 4] []) (hQ2:VaP x->TotP x<=5000->Q [pi (TotP x),pi 0] []) (hQ3:VaP x-> ¬TotP x<=5000->Q [pi 0,pi 2] []):Gives S Zbx [.agg x.cs] [] Q:=by
 have g2:=Yh (as:=x.c) ZaU
 refine .code H.ZiX rfl ?_
 simp(disch:=omega)[Zco]
 refine Zjd H hx ?_
 by_cases hv:VaP x
 rotate_left
 · rw [Zaf hv]
   simp(disch:=omega)
   exact hQ1 hv
 rw [Zah hv]
 have hn: ∀ch∈cnts x.c,ch≠[]:=fun ch hc=>by
   obtain ⟨l,hl,rfl⟩:=List.mem_map.1 hc
   have:=(hv.2.1 l hl).1
   intro h0
   rw [List.map_eq_nil_iff] at h0
   subst h0
   simp at this
 have hb:=hv.1
 have hl2:=Zd9 (c:=x.c)
 have ez:List.replicate x.c.length [P.int .i64 0]=ints (natI (List.replicate (cnts x.c).length 0)):=by simp [ints,natI,hl2]
 simp(disch:=omega)[ez]
 refine Lp.rule (fun (b:Nat×List Nat×Bool)=>[(1,.a (.one (.ref ⟨true,10001,0⟩))),(4,.a (pi b.1)),(5,.a (.one (.tip 1 (ints (natI b.2.1))))),(6,.a (pb b.2.2)),(9999,.objs []),(10001,.a (.agg x.cs))])
   (fun b=>b.1<=5000/\(b.2.2=true->ZoG (cnts x.c) b.2.1/\b.1+Rest (cnt x.l) (cnts x.c) b.2.1=TotP x)/\(b.2.2=false->b.1=TotP x)) (fun b=>if b.2.2=true then Rest (cnt x.l) (cnts x.c) b.2.1+1 else 0) (a₀:=(0,List.replicate (cnts x.c).length 0,true)) Zs ⟨Yd _,fun _=>⟨ZiW hn,by rw [Ziz hn];simp [TotP]⟩,fun h=>nomatch h⟩ ?_
 rintro ⟨n,p,m⟩ ⟨k1,k2,k3⟩
 dsimp only at k1 k2 k3
 cases m with
 | true=>
   obtain ⟨hf,ht⟩:=k2 rfl
   have hp:=Zms hf
   have rn:=Zmi (d:=cnt x.l) hn hf
   have hc:cnt (x.l++ZhF x.c (natI p))=cnt x.l+sumP (cnts x.c) p:=by rw [Zn1,ZnL hf]
   have hlen:=Ziv hv hp
   have hc2:=Zn8 (x.l++ZhF x.c (natI p))
   obtain ⟨d,hd⟩: ∃d,d=cnt x.l+sumP (cnts x.c) p:=⟨_,rfl⟩
   rw [<-hd] at hc rn
   simp(disch:=omega)
   refine Zy4 H hv hp ?_
   simp(disch:=omega)
   rw [<-YC]
   refine ZuN H.toHas Zo ?_
   rw [hc]
   by_cases h13:13<d
   · have:2 ^ 14<=2 ^ d:=Nat.pow_le_pow_right Zd h13
     have h14:(2:Nat) ^ 14=16384:=by decide
     simp(disch:=omega)[h13]
     exact hQ3 hv Zo
   · have hpd:2 ^ d<=2 ^ 13:=Nat.pow_le_pow_right Zd Zo
     have h14:(2:Nat) ^ 13=8192:=by decide
     have es:=ZqV (k:=d) Zo
     obtain ⟨w,hw⟩: ∃w,w=2 ^ d:=⟨_,rfl⟩
     rw [<-hw] at es rn hpd
     simp(disch:=omega)[h13,ZrL,es]
     by_cases h5:5000<n+w
     · have h5':(5000:Int)<(n:Int)+w:=by omega
       simp(disch:=omega)[h5']
       exact hQ3 hv Zo
     · have h5': ¬(5000:Int)<(n:Int)+w:=by omega
       simp(disch:=omega)[h5']
       refine ZxC H hv hf (fun q hq=>?_) (fun hq=>?_)
       · rw [hq] at rn
         dsimp only at rn
         have w1:1<=w:=by rw [hw];exact ZnZ d
         simp(disch:=omega)
         exact RdN.mk (n+w,q,true) Zs ⟨by dsimp only;omega,fun _=>⟨ZlG hn hf hq,by dsimp only;omega⟩,fun h=>nomatch h⟩ (by dsimp only;rw [if_pos rfl,if_pos rfl];omega)
       · rw [hq] at rn
         dsimp only at rn
         simp(disch:=omega)
         exact RdN.mk (n+w,[],false) (by simp [natI,ints]) ⟨by dsimp only;omega,fun h=>(nomatch (show false=true from h)),fun _=>by dsimp only;omega⟩ (by dsimp only;rw [if_pos rfl];simp)
 | false=>
   have:=k3 rfl
   simp(disch:=omega)
   rw [this]
   exact hQ2 hv Zo
end Go.Am.Fe
end
section
namespace Go.Am.Fe
variable {S:Nat->Option Fn} {Q:List A->List (List C)->Prop}
attribute [local simp] Zfa if_pos if_neg decide_eq_true decide_eq_false Yi Yj Zmo Ops.callv List.idxOf?_cons Zcs
def tysC (l:List Con):List Ty:=l.flatMap fun c=>[c.a,c.b]
def Zth {l:List Con} {j:Nat} (h:j<l.length):tysC (l.take (j+1))=tysC (l.take j)++[l[j].a,l[j].b]:=by
 rw [List.take_succ_eq_append_getElem h];simp only [tysC,List.flatMap_append,List.flatMap_cons,List.flatMap_nil,List.append_nil]
def ZlP: ∀{l:List Con},(tysC l).length=2*l.length
 | []=>rfl
 | c::l=>by
   have:=ZlP (l:=l)
   unfold tysC at this⊢
   rw [List.flatMap_cons,YF,this];simp;omega
def ZvN {l:List Con} (h: ∀c∈l,c.ok): ∀t∈tysC l,t.fw:=fun t ht=>by
 obtain ⟨c,h1,h2⟩:=List.mem_flatMap.1 ht
 simp at h2
 rcases h2 with rfl|rfl
 ·exact (h c h1).1
 ·exact (h c h1).2
def Zro (H:Has S) {l:List Con} (hl:l.length<=100) (hQ:Q [.one (.p (.sl 4 (Ty.encs (tysC l))))] []):Gives S ZbQ [.one (.p (.sl 10 (l.map Con.row)))] [] Q:=by
 have g:=Yh (as:=l) Con.row
 refine .code H.Zm3 rfl ?_
 simp(disch:=omega)[ZdY]
 refine Lp.rule (fun (j:Nat)=>[(0,.a (.one (.p (.sl 10 (l.map Con.row))))),(3,.a (.one (.tip 4 (Ty.encs (tysC (l.take j)))))),(4,.a (pi j)),(9999,.objs [])]) (fun j=>j<=l.length) (fun j=>l.length-j) (a₀:=0) (by simp [tysC,Ty.encs]) (Yd _) ?_
 intro j k1
 by_cases hj:j<l.length
 ·have e:=Zba (f:=Con.row) (l:=l) (j:=j) Zo
  have g2:(Ty.encs (tysC (l.take j))).length=2*j:=by rw [Ty.encs_length,ZlP,List.length_take];omega
  simp(disch:=omega)[e]
  exact RdN.mk (j+1) (by rw [Zth hj];simp [Ty.encs_rows]) hj Zo
 ·rw [Yg Zo]
  simp(disch:=omega)
  exact hQ
def ZqO (H:Has S) {l:List Ty} (hl:l.length<=1000) (h1: ∀t∈l,t.fw) (hQ: ∀b:Bool,Q [pb b] []):Gives S ZbN [.one (.p (.sl 4 (Ty.encs l)))] [] Q:=by
 have e1:(Ty.encs l).length=l.length:=Ty.encs_length
 refine .code H.Znb rfl ?_
 simp(disch:=omega)[ZdG]
 refine Lp.rule (fun (j:Nat)=>[(0,.a (.one (.p (.sl 4 (Ty.encs l))))),(3,.a (pi j)),(9999,.objs [])]) (fun j=>j<=l.length) (fun j=>l.length-j) (a₀:=0) Zs (Yd _) ?_
 intro j k1
 by_cases hj:j<l.length
 ·have r1:=Ty.encs_get (l:=l) (j:=j) Zo
  simp(disch:=omega)[r1]
  refine ZsE H Zd Zd _ _ _ (Yz _) (h1 _ (Yl hj)) fun x _ _ _ _=>?_
  by_cases hx:x>60
  ·simp(disch:=omega)[hx]
   exact hQ false
  ·simp(disch:=omega)[hx]
   exact RdN.mk (j+1) rfl hj Zo
 ·simp(disch:=omega)
  exact hQ true
def ZvL (H:Has S) {x:Pb} (hx:x.ok) (hQ: ∀b:Bool,Q [pb b] []):Gives S ZcI [.agg x.cs] [] Q:=by
 have g1:=Yh (as:=x.l) Con.row
 have g2:=Yh (as:=x.c) ZaU
 refine .code H.ZmE rfl ?_
 simp(disch:=omega)[Zd1]
 by_cases h1:100<x.l.length
 ·simp(disch:=omega)[h1]
  exact hQ true
 by_cases h2:12<x.c.length
 ·simp(disch:=omega)[h1,h2]
  exact hQ true
 simp(disch:=omega)[h1,h2]
 refine Zro H Zo ?_
 simp(disch:=omega)
 refine ZqO H (by rw [ZlP];omega) (ZvN hx.1.2) fun b=>?_
 cases b
 ·simp(disch:=omega)
  exact hQ true
 simp(disch:=omega)
 refine Lp.rule (fun (i:Nat)=>[(1,.a (.one (.ref ⟨true,10001,0⟩))),(3,.a (pi i)),(9999,.objs []),(10001,.a (.agg x.cs))]) (fun i=>i<=x.c.length) (fun i=>x.c.length-i) (a₀:=0) Zs (Yd _) ?_
 intro i i1
 by_cases hi:i<x.c.length
 ·have e1:=Zba (f:=ZaU) (l:=x.c) (j:=i) Zo
  have g5:=Yh (as:=x.c[i]) Alt.row
  simp(disch:=omega)[e1]
  by_cases q1:10<x.c[i].length
  ·simp(disch:=omega)[q1]
   exact hQ true
  simp(disch:=omega)[q1]
  refine Lp.rule (fun (k:Nat)=>[(1,.a (.one (.ref ⟨true,10001,0⟩))),(3,.a (pi i)),(4,.a (pi k)),(9999,.objs []),(10001,.a (.agg x.cs))]) (fun k=>k<=x.c[i].length) (fun k=>x.c[i].length-k) (a₀:=0) Zs (Yd _) ?_
  intro k k1
  by_cases hk:k<x.c[i].length
  ·have e2:=Zba (f:=Alt.row) (l:=x.c[i]) (j:=k) Zo
   have g6:=Yh (as:=x.c[i][k].l) Con.row
   have ao:=(hx.2.2 _ (Yl hi)).2 _ (Yl hk)
   have g7:=ao.1
   by_cases w1:100<x.c[i][k].l.length
   ·simp(disch:=omega)[e1,e2,w1]
    exact hQ true
   simp(disch:=omega)[e1,e2,w1]
   refine Zro H Zo ?_
   simp(disch:=omega)
   refine ZqO H (by rw [ZlP];omega) (ZvN ao.2) fun b=>?_
   cases b
   ·simp(disch:=omega)
    exact hQ true
   ·simp(disch:=omega)
    exact RdN.mk (k+1) Zs hk Zo
  ·simp(disch:=omega)[e1]
   exact RdN.mk (i+1) Zs hi Zo
 ·simp(disch:=omega)
  exact hQ false
def ZzF (H:HM S) (hA: ∀Q:List A->List (List C)->Prop,Q [pb true] []->Gives S ZdO [] [] Q) {x:Pb} {q:List Int} (hx:x.ok) (hq:q.length<=9223372036854775807) (hQ:Q [pb true] []):Gives S Zbf [.agg x.cs,.one (.p (.sl 1 (ints q)))] [] Q:=by
 refine .code H.ZhG rfl ?_
 simp(disch:=omega)[Zb1]
 refine ZvL H.toHas hx fun b=>?_
 cases b
 rotate_left
 ·simp(disch:=omega)
  exact hQ
 simp(disch:=omega)
 have fin: ∀(n m:Int) (d c:Int) (v:Bool),True:=fun _ _ _ _ _=>trivial
 refine Zt2 H hx (fun hv=>?_) (fun hv ht=>?_) (fun hv ht=>?_)
 ·simp(disch:=omega)
  refine Zrf H hx (fun _=>?_) (fun h=>absurd h hv) (fun h=>absurd h hv)
  simp(disch:=omega)
  refine ZvR H hx hq (fun _=>?_) (fun h=>absurd h hv) (fun h=>absurd h hv)
  simp(disch:=omega)
  refine Zun H hx hq (fun _=>?_) (fun h=>absurd h hv) (fun h=>absurd h hv)
  simp(disch:=omega)
  refine Zl2 H hx ?_
  rw [Zaf hv]
  simp(disch:=omega)
  refine Zjd H hx ?_
  rw [Zaf hv]
  simp(disch:=omega)
  refine hA _ ?_
  simp(disch:=omega)
  exact hQ
 all_goals
  simp(disch:=omega)
  refine Zrf H hx (fun h=>absurd hv h) (fun _ h=>?_) (fun _ h=>?_)
  all_goals first
      | exact absurd h ht
      | exact absurd ht h
      | skip
  simp(disch:=omega)
  refine ZvR H hx hq (fun h=>absurd hv h) (fun _ hp=>?_) (fun _ hp=>?_)
  all_goals
   simp(disch:=omega)
   refine Zun H hx hq (fun h=>absurd hv h) (fun _ h=>?_) (fun _ h=>?_)
   all_goals first
        | exact absurd h hp
        | exact absurd hp h
        | skip
   simp(disch:=omega)
   refine Zl2 H hx ?_
   rw [Zah hv]
   simp(disch:=omega)
   refine Zjd H hx ?_
   rw [Zah hv]
   simp(disch:=omega)
   refine hA _ ?_
   simp(disch:=omega)
   exact hQ
end Go.Am.Fe
end
