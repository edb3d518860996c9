/- Part. -/
import Derived.Test.YtcdpeppblcijfaaGreatDoorOar
import Derived.Test.YtcdpeppblcijfaaGreatDoorOak
set_option maxRecDepth 999999
set_option maxHeartbeats 0
set_option linter.all false
section
namespace Go.Am.Fe
variable {S:SF} {Q:QF}
attribute [local simp] ZbO if_pos if_neg decide_eq_true decide_eq_false Yi Yj ZgF Ops.callv
open Tx in
def idxC (s:Nat):SFunc:=⟨2,[],[.tmp 4],
 (q (r [mv (n 0) 4])
 (q (q (r [m 0 6,le 6 7,mv (n 0) 8])
 (k 0 (lo [0,1,7,8,9999] (q (r [o ls [v 8,v 7] 9])
 (q (i 9 e (ex 0))
 (q (k 1 (q (r [m 8 10,m 10 5])
 (q (r [m 1 11,m 0 12,m 5 13,ix s 12 (v 13) 14,ls2 s 14 15,cv 1 [v 11,v 15,v 9999] 16])
 (i 16 (q (r [m 5 17,m 17 4])
 .ret) e))))
 (r [o ad [v 8,n 1] 18,m 18 8])))))))
 (q (r [mv (n (-1)) 4])
 .ret)))⟩
def ZF4 {r:List P} {s:Nat} (h:r.length=s):List.take s (r.map C.p)=r.map C.p:=Yg Ze
def ZFW {α:Type} {N s:Nat} (hN:S N=some (.code (idxC s))) {f:Nat} {first caps:List R} {os:List LC} {l:List α} {w:α->List P} (hl:l.length<=100000) (hs: ∀x∈l,(w x).length=s) (ho:Pass os) (h1:PassR os.length first) (h2:PassR os.length caps)
  {p:α->Bool} (hp: ∀x∈l,∀Q,Q [pb (p x)] os->Gives S f (ZDB first caps [.agg ((w x).map .p)]) os Q) (hQ0:(∀x∈l,p x=false)->Q [pi (-1)] os) (hQ1: ∀j:Nat,(h:j<l.length)->p l[j]=true->(∀x∈l.take j,p x=false)->Q [pi j] os):
  Gives S N [.one (.p (.sl s (l.map w))),.one (.clo f first caps)] os Q:=by
 refine .code hN rfl ?_
 simp(disch:=omega)[idxC]
 refine Lp.rule (fun (j:Nat)=>[(0,.a (.one (.p (.sl s (l.map w))))),(1,.a (.one (.clo f first caps))),(7,.a (pi l.length)),(8,.a (pi j)),(9999,.objs os)]) (fun j=>j<=l.length/\ ∀r∈l.take j,p r=false) (fun j=>l.length-j) (a₀:=0) Zs ⟨Yd _,by simp⟩ ?_
 rintro j ⟨k1,k2⟩
 by_cases hj:j<l.length
 · have hm:=Yl hj
   have e:=hs _ hm
   simp(disch:=omega)[ZF4 e,ZFi h1 h2,ho.down,ho.up]
   refine hp _ hm _ ?_
   cases hb:p l[j]
   ·simp(disch:=omega)[ho.up,ho.fin]
    refine RdN.mk (j+1) rfl ⟨hj,fun r hr=>?_⟩ Zo
    rw [Ym,Ya hj,Ys] at hr
    rcases hr with hr|hr
    ·exact k2 r hr
    ·simp at hr;rw [hr];exact hb
   ·simp(disch:=omega)[ho.up,ho.fin]
    exact hQ1 j hj hb k2
 · simp(disch:=omega)[ho.fin]
   rw [Yg Zo] at k2
   exact hQ0 k2
open Tx in
def conC (g:Nat):SFunc:=⟨2,[],[.tmp 4],
 (q (r [mv (b false) 4])
 (q (r [mt 0 5,m 1 6,cp g 2 [v 5,v 6,v 9999] 7,o ge [v 7,n 0] 8,m 8 4])
 .ret))⟩
def ZFa {α:Type} {N M s:Nat} (hN:S N=some (.code (conC M))) (hM:S M=some (.code (idxC s))) {f:Nat} {first caps:List R} {os:List LC} {l:List α} {w:α->List P} (hl:l.length<=100000) (hs: ∀x∈l,(w x).length=s) (ho:Pass os) (h1:PassR os.length first) (h2:PassR os.length caps)
  {p:α->Bool} (hp: ∀x∈l,∀Q,Q [pb (p x)] os->Gives S f (ZDB first caps [.agg ((w x).map .p)]) os Q) (hQ:Q [pb (l.any p)] os):
  Gives S N [.one (.p (.sl s (l.map w))),.one (.clo f first caps)] os Q:=by
 refine .code hN rfl ?_
 simp(disch:=omega)[conC,ZFh h1 h2,ho.down,ho.up]
 refine ZFW hM hl hs ho h1 h2 hp (fun h=>?_) (fun j hj h h'=>?_)
 · rw [show l.any p=false from by simpa using h] at hQ
   simp(disch:=omega)[ho.up,ho.fin]
   exact hQ
 · rw [show l.any p=true from List.any_eq_true.2 ⟨_,Yl hj,h⟩] at hQ
   simp(disch:=omega)[ho.up,ho.fin]
   exact hQ
open Tx in
def eqfC (s:Nat) (z:LC):SFunc:=⟨3,[],[.tmp 6],
 (q (r [mv (b false) 6])
 (q (q (r [m 0 10,le 10 11,m 1 12,le 12 13,o ne [v 11,v 13] 14])
 (i 14 (q (r [mv (b false) 6])
 .ret) e))
 (q (q (r [mt 0 15,le 15 16,mv (n 0) 17])
 (k 0 (lo [1,2,15,16,17,9999] (q (r [o ls [v 17,v 16] 18])
 (q (i 18 e (ex 0))
 (q (k 1 (q (r [m 17 19,ix s 15 (v 17) 20,ls2 s 20 21,al 10008 z 8,m 19 7,su 10008 s 8 21])
 (q (r [m 1 22,m 7 23,ix s 22 (v 23) 24,ls2 s 24 25,al 10009 z 9,su 10009 s 9 25])
 (q (r [m 2 26,ln 10008 s 8 27,ln 10009 s 9 28,cv 2 [v 26,v 27,v 28,v 9999] 29,nt 29 30])
 (i 30 (q (r [mv (b false) 6])
 .ret) e)))))
 (r [o ad [v 17,n 1] 31,m 31 17])))))))
 (q (r [mv (b true) 6])
 .ret))))⟩
def all2 {α β:Type} (p:α->β->Bool):List α->List β->Bool
 | [],[]=>true
 | a::l,b::m=>p a b && all2 p l m
 | _,_=>false
def ZFv {α β:Type} {p:α->β->Bool}: ∀{l:List α} {m:List β},l.length≠m.length->all2 p l m=false
 | [],[],h=>absurd rfl h
 | _::_,_::_,h=>by rw [all2,ZFv (by simpa using h),Bool.and_false]
 | [],_::_,_=>rfl
 | _::_,[],_=>rfl
def putR {r:List P} {s:Nat} {z:LC} (h:r.length=s) (hz:z.length=s):put z 0 (r.map C.p)=some (r.map C.p):=by
 simp [put,h,hz]
def cutR {r:List P} {s:Nat} (h:r.length=s):cut (r.map C.p) 0 s=some (r.map C.p):=by
 simp [cut,h,ZF4 h]
def ZEU {α:Type} {N s:Nat} {z:LC} (hN:S N=some (.code (eqfC s z))) (hz:z.length=s) {f:Nat} {os:List LC} {l l':List α} {w:α->List P} (hl:l.length<=100000) (hl':l'.length<=100000) (hs: ∀x∈l,(w x).length=s) (hs': ∀x∈l',(w x).length=s) (ho:Pass os)
  {p:α->α->Bool} (hp: ∀x∈l,∀y∈l',∀Q,Q [pb (p x y)] os->Gives S f [.agg ((w x).map .p),.agg ((w y).map .p)] os Q) (hQ:Q [pb (all2 p l l')] os):
  Gives S N [.one (.p (.sl s (l.map w))),.one (.p (.sl s (l'.map w))),.one (.clo f [] [])] os Q:=by
 refine .code hN rfl ?_
 simp(disch:=omega)[eqfC]
 by_cases hll:l.length=l'.length
 · simp(disch:=omega)[hll]
   refine Lp.rule (fun (j:Nat)=>[(1,.a (.one (.p (.sl s (l'.map w))))),(2,.a (.one (.clo f [] []))),(15,.a (.one (.p (.sl s (l.map w))))),(16,.a (pi l'.length)),(17,.a (pi j)),(9999,.objs os)]) (fun j=>j<=l.length/\all2 p l l'=all2 p (l.drop j) (l'.drop j)) (fun j=>l.length-j) (a₀:=0) Zs ⟨Yd _,by simp⟩ ?_
   rintro j ⟨k1,k2⟩
   by_cases hj:j<l.length
   ·have hm:=Yl hj
    have hj':j<l'.length:=by omega
    have hm':=Yl hj'
    have e:=hs _ hm
    have e':=hs' _ hm'
    rw [List.drop_eq_getElem_cons hj,List.drop_eq_getElem_cons hj',all2] at k2
    have hc:=fun κ=>ho.ment (κ:=κ)
    have hd:z.drop (w l[j]).length=[]:=by simp [hz,e]
    have hd':z.drop (w l'[j]).length=[]:=by simp [hz,e']
    simp(disch:=omega)[ZF4 e,ZF4 e',ho.down,ho.up,hz,putR e hz,putR e' hz,hc,hd,hd',cutR e,cutR e']
    refine hp _ hm _ hm' _ ?_
    cases hb:p l[j] l'[j]
    ·simp(disch:=omega)[ho.up,ho.fin]
     rw [k2,hb] at hQ
     exact hQ
    ·simp(disch:=omega)[ho.up,ho.fin]
     exact RdN.mk (j+1) (by simp [hll]) ⟨hj,by rw [k2,hb,Bool.true_and]⟩ Zo
   ·simp(disch:=omega)[ho.fin]
    rw [List.drop_of_length_le Zo,List.drop_of_length_le Zo] at k2
    rw [k2] at hQ
    exact hQ
 · rw [show all2 p l l'=false from ZFv hll] at hQ
   simp(disch:=omega)[hll,ho.fin]
   exact hQ
open Tx in
def lisC (s:Nat) (z:LC):SFunc:=⟨2,[true],[.tmp 4],
 (q (r [mv (.c (.tip s [])) 4])
 (q (r [mv (.c (.tip s [])) 5])
 (q (q (r [mt 0 9,le 9 10,mv (n 0) 11])
 (k 0 (lo [1,5,9,10,11,9999] (q (r [o ls [v 11,v 10] 12])
 (q (i 12 e (ex 0))
 (q (k 1 (q (r [ix s 9 (v 11) 13,ls2 s 13 14,al 10007 z 7,su 10007 s 7 14])
 (q (r [m 1 15,ln 10007 s 7 16,cv 1 [v 15,v 16,v 9999] 17,al 10008 z 8,su 10008 s 8 17])
 (r [mt 5 18,ln 10008 s 8 19,bs s [v 19] 20,ap s 18 20 21,mt 21 5]))))
 (r [o ad [v 11,n 1] 22,m 22 11])))))))
 (q (r [mt 5 23,mt 23 4])
 .ret))))⟩
def ZFJ {N s:Nat} {z:LC} (hN:S N=some (.code (lisC s z))) (hz:z.length=s) {f:Nat} {os:List LC} {α:Type} {l:List α} {w:α->List P} (hl:l.length<=100000) (hs: ∀x∈l,(w x).length=s) (ho:Pass os)
  {g:α->List P} (hg: ∀x∈l,(g x).length=s) (hp: ∀x∈l,∀Q,Q [.agg ((g x).map .p)] os->Gives S f [.agg ((w x).map .p)] os Q) (hQ:Q [.one (.p (.sl s (l.map g)))] os):
  Gives S N [.one (.p (.sl s (l.map w))),.one (.clo f [] [])] os Q:=by
 refine .code hN rfl ?_
 simp(disch:=omega)[lisC]
 refine Lp.rule (fun (j:Nat)=>[(1,.a (.one (.clo f [] []))),(5,.a (.one (.tip s ((l.take j).map g)))),(9,.a (.one (.p (.sl s (l.map w))))),(10,.a (pi l.length)),(11,.a (pi j)),(9999,.objs os)]) (fun j=>j<=l.length) (fun j=>l.length-j) (a₀:=0) Zs (Yd _) ?_
 intro j k1
 by_cases hj:j<l.length
 · have hm:=Yl hj
   have e:=hs _ hm
   have e':=hg _ hm
   have hc:=fun κ=>ho.ment (κ:=κ)
   have hd:z.drop (w l[j]).length=[]:=by simp [hz,e]
   have hd':z.drop s=[]:=by simp [hz]
   have hd2: ∀h:C->C,(z.map h).drop s=[]:=by simp [hz]
   simp(disch:=omega)[ZF4 e,ho.down,ho.up,hz,putR e hz,hc,hd,cutR e]
   refine hp _ hm _ ?_
   simp(disch:=omega)[ZF4 e',ho.down,ho.up,ho.fin,hz,putR e' hz,hc,hd',hd2,cutR e',e']
   exact RdN.mk (j+1) (by simp [Ym,Ya hj]) hj Zo
 · simp(disch:=omega)[ho.fin]
   rw [Yg Ze]
   exact hQ
end Go.Am.Fe
end
section
namespace Go.Am.Fe
variable {S:SF} {Q:QF}
attribute [local simp] ZbO if_pos if_neg decide_eq_true decide_eq_false Yi Yj ZgF Ops.callv
def ZEL (H:HG S) {a b:Int} (hQ: ∀c:Int, -1<=c->c<=1->(c=0↔a=b)->Q [pi c] []):Gives S ZdR [pi a,pi b] [] Q:=by
 refine .code H.cmpCompareInt rfl ?_
 simp(disch:=omega)[ZlZ]
 refine .code H.cmpIsNaNIntq rfl ?_
 simp(disch:=omega)[Zne]
 refine .code H.cmpIsNaNIntq rfl ?_
 simp(disch:=omega)[Zne]
 rcases Int.lt_trichotomy a b with h|h|h
 ·simp(disch:=omega)[h]
  exact hQ _ Zo Zo Zo
 ·subst h
  simp(disch:=omega)
  exact hQ _ Zo Zo Zo
 ·simp(disch:=omega)[h]
  exact hQ _ Zo Zo Zo
def ZGe (H:HG S) {a b:LN} (hQ:Q [pi (cmpN a b)] []):Gives S Zg5 [ps a,ps b] [] Q:=by
 refine .code H.stringsCompare rfl ?_
 simp(disch:=omega)[ZlE]
 refine H.cmp _ _ ?_
 simp(disch:=omega)
 exact hQ
def ZGd (H:HG S) {a b c:Int} (hQ:Q [pi (if a≠0 then a else if b≠0 then b else c)] []):Gives S Zod [.one (.p (.sl 1 [[.i a],[.i b],[.i c]]))] [] Q:=by
 refine .code H.cmpOrInt rfl ?_
 simp(disch:=omega)[ZsJ]
 refine Lp.rule (fun (j:Nat)=>[(3,.a (pi 0)),(6,.a (.one (.p (.sl 1 [[.i a],[.i b],[.i c]])))),(7,.a (pi 3)),(8,.a (pi j)),o9]) (fun j=>j<=3/\(1<=j->a=0)/\(2<=j->b=0)/\(3<=j->c=0)) (fun j=>3-j) (a₀:=0) Zs Zo ?_
 rintro j ⟨k1,k2,k3,k4⟩
 obtain rfl|rfl|rfl|rfl:j=0∨j=1∨j=2∨j=3:=by omega
 ·by_cases h:a=0
  ·simp(disch:=omega)[h]
   exact RdN.mk 1 (by simp [h]) Zo Zo
  ·rw [if_pos h] at hQ
   simp(disch:=omega)[h]
   exact hQ
 ·obtain rfl:=k2 Zo
  by_cases h:b=0
  ·simp(disch:=omega)[h]
   exact RdN.mk 2 (by simp [h]) Zo Zo
  ·simp [h] at hQ
   simp(disch:=omega)[h]
   exact hQ
 ·obtain rfl:=k2 Zo
  obtain rfl:=k3 Zo
  by_cases h:c=0
  ·simp(disch:=omega)[h]
   exact RdN.mk 3 (by simp [h]) Zo Zo
  ·simp at hQ
   simp(disch:=omega)[h]
   exact hQ
 ·obtain rfl:=k2 Zo
  obtain rfl:=k3 Zo
  obtain rfl:=k4 Zo
  simp at hQ
  simp(disch:=omega)
  exact hQ
def ZGw (H:HG S) {l m:List LN} (hl:l.length<=100000) (hm:m.length<=100000) (hQ:Q [pb (dq (l=m))] []):Gives S Zmb [.one (.l 1 (strs l)),.one (.l 1 (strs m))] [] Q:=by
 have g0:(strs l).length=l.length:=by simp [strs]
 have g1:(strs m).length=m.length:=by simp [strs]
 refine .code H.slicesEqualLStringString rfl ?_
 simp(disch:=omega)[ZDE]
 by_cases hlm:l.length=m.length
 ·simp(disch:=omega)[hlm,g0,g1]
  refine Lp.rule (fun (j:Nat)=>[(0,.a (.one (.l 1 (strs l)))),(1,.a (.one (.l 1 (strs m)))),(12,.a (pi m.length)),(13,.a (pi j)),o9]) (fun j=>j<=l.length/\l.take j=m.take j) (fun j=>l.length-j) (a₀:=0) (by simp [g0,hlm]) ⟨Yd _,by simp⟩ ?_
  rintro j ⟨k1,k2⟩
  by_cases hj:j<l.length
  ·have e:(strs l)[j]'(by omega)=[.str l[j]]:=by simp [strs]
   have e':(strs m)[j]'(by omega)=[.str (m[j]'(by omega))]:=by simp [strs]
   by_cases h:l[j]=m[j]'(by omega)
   ·simp(disch:=omega)[e,e',h]
    exact RdN.mk (j+1) (by simp [hlm]) ⟨hj,by rw [Ym,Ym,k2,Ya hj,Ya Zo,h]⟩ Zo
   ·simp(disch:=omega)[e,e',h]
    rw [ZDy (by rintro rfl;exact h rfl)] at hQ
    exact hQ
  ·simp(disch:=omega)
   rw [Yg Zo,Yg Zo] at k2
   rw [ZDz k2] at hQ
   exact hQ
 ·simp(disch:=omega)[hlm,g0,g1]
  rw [ZDy (by rintro rfl;exact hlm rfl)] at hQ
  exact hQ
end Go.Am.Fe
end
section
namespace Go.Am.Fe
variable {S:SF} {Q:QF}
attribute [local simp] ZbO if_pos if_neg decide_eq_true decide_eq_false Yi Yj ZgF Ops.callv Ty.encs_length
def Ty.encs_get {l:List Ty} {j:Nat} (h:j<(Ty.encs l).length):(Ty.encs l)[j]=(l[j]'(by simpa using h)).row:=by
 simp only [Ty.encs_rows,List.getElem_map]
mutual
def Ty.fw:Ty->Prop
 | .mk k _ n args=>args.length<=100000/\(k=7->n=0/\args=[])/\Ty.fws args
def Ty.fws:List Ty->Prop
 | []=>True
 | t::l=>t.fw/\Ty.fws l
end
mutual
def Ty.fit_fw: ∀(t:Ty),t.fit->t.fw
 | .mk _ _ _ a,h=>⟨h.2.1,h.2.2.1.2.1,Ty.fits_fw a h.2.2.2⟩
def Ty.fits_fw: ∀(l:List Ty),Ty.fits l->Ty.fws l
 | [],_=>trivial
 | t::l,h=>⟨Ty.fit_fw t h.1,Ty.fits_fw l h.2⟩
end
def Ty.fws_get: ∀{l:List Ty} {j:Nat} (_:Ty.fws l) (h:j<l.length),l[j].fw
 | t::l,0,hf,_=>hf.1
 | t::l,j+1,hf,h=>Ty.fws_get (l:=l) hf.2 (by simpa using h)
def Ty.szs_get: ∀{l:List Ty} {j:Nat} (h:j<l.length),l[j].sz<=Ty.szs l
 | t::l,0,_=>by simp [Ty.szs]
 | t::l,j+1,h=>by have:=Ty.szs_get (l:=l) (j:=j) (by simpa using h);simp [Ty.szs];omega
def Ty.fw_len {t:Ty} (h:t.fw):t.a.length<=100000:=by cases t;exact h.1
def Ty.fw_a {t:Ty} (h:t.fw):Ty.fws t.a:=by cases t;exact h.2.2
def Ty.sz_a {t:Ty}:Ty.szs t.a<t.sz:=by cases t;simp [Ty.sz,Ty.a]
def Ty.eq_iff {t u:Ty}:t=u↔t.k=u.k/\t.s=u.s/\t.n=u.n/\t.a=u.a:=⟨fun h=>by subst h;simp,fun ⟨a,b,c,d⟩=>Ty.ext a b c d⟩
def CmpQ (S:SF) (n:Nat):Prop:= ∀(t u:Ty) (Q:QF),t.sz<n->t.fw->u.fw->(∀c:Int, -1<=c->c<=1->(c=0↔t=u)->Q [pi c] [])->Gives S Zfu [.agg t.cs,.agg u.cs] [] Q
def ZGv (H:HG S) {n:Nat} (ih:CmpQ S n) {a b:List Ty} (hs:Ty.szs a<n) (ha:a.length<=100000) (hb:b.length<=100000) (ha':Ty.fws a) (hb':Ty.fws b) (hQ: ∀c:Int, -1<=c->c<=1->(c=0↔a=b)->Q [pi c] []):
  Gives S ZeX [.one (.l 4 (Ty.encs a)),.one (.l 4 (Ty.encs b)),.one (.clo Zfu [] [])] [] Q:=by
 have ga:=Ty.encs_length (a:=a)
 have gb:=Ty.encs_length (a:=b)
 refine .code H.typesListsApiTypeq rfl ?_
 simp(disch:=omega)[ZhH]
 refine Lp.rule (fun (j:Nat)=>[(0,.a (.one (.l 4 (Ty.encs a)))),(1,.a (.one (.l 4 (Ty.encs b)))),(2,.a (.one (.clo Zfu [] []))),(7,.a (pi j)),o9]) (fun j=>j<=a.length/\j<=b.length/\a.take j=b.take j) (fun j=>a.length-j) (a₀:=0) Zs ⟨Yd _,Yd _,by simp⟩ ?_
 rintro j ⟨k1,k2,k3⟩
 have fin: ¬(j<a.length/\j<b.length)->((a.length:Int)=b.length↔a=b):=fun h=>⟨fun h'=>by
  rwa [Yg Zo,Yg Zo] at k3,fun h'=>by rw [h']⟩
 by_cases hj:j<a.length
 ·by_cases hj':j<b.length
  ·have e:=Ty.encs_get (l:=a) (j:=j) (by simpa using hj)
   have e':=Ty.encs_get (l:=b) (j:=j) (by simpa using hj')
   simp(disch:=omega)[e,e']
   refine ih a[j] b[j] _ (by have:=Ty.szs_get hj;omega) (Ty.fws_get ha' hj) (Ty.fws_get hb' hj') fun c c1 c2 hc=>?_
   by_cases h0:c=0
   ·have:=hc.1 h0
    simp(disch:=omega)[h0]
    exact RdN.mk (j+1) rfl ⟨hj,hj',by rw [Ym,Ym,k3,Ya hj,Ya hj',this]⟩ Zo
   ·simp(disch:=omega)[h0]
    refine hQ c c1 c2 ⟨fun h=>absurd h h0,fun h=>?_⟩
    subst h
    exact absurd (hc.2 rfl) h0
  ·simp(disch:=omega)
   refine ZEL H fun c c1 c2 hc=>?_
   simp(disch:=omega)
   exact hQ c c1 c2 (hc.trans (fin Zo))
 ·simp(disch:=omega)
  refine ZEL H fun c c1 c2 hc=>?_
  simp(disch:=omega)
  exact hQ c c1 c2 (hc.trans (fin Zo))
def ZFZ (H:HG S): ∀n,CmpQ S n
 | 0=>fun _ _ _ h=>absurd h (YH _)
 | n+1=>fun t u Q hs h1 h2 hQ=>by
   have ih:=ZFZ H n
   refine .code H.typesCompareq rfl ?_
   simp(disch:=omega)[ZlW]
   refine ZEL H fun c1 p1 p2 p3=>?_
   simp(disch:=omega)
   refine ZGe H ?_
   simp(disch:=omega)
   refine ZEL H fun c2 q1 q2 q3=>?_
   simp(disch:=omega)
   refine ZGd H ?_
   simp(disch:=omega)
   by_cases e1:t.k=u.k
   · obtain rfl:=p3.2 e1
     by_cases e2:t.s=u.s
     · have e2':=(ZEI _ _).2 e2
       by_cases e3:t.n=u.n
       · obtain rfl:=q3.2 e3
         simp(disch:=omega)[e2']
         refine ZGv H ih (by have:=Ty.sz_a (t:=t);omega) (Ty.fw_len h1) (Ty.fw_len h2) (Ty.fw_a h1) (Ty.fw_a h2) fun c r1 r2 r3=>?_
         simp(disch:=omega)
         exact hQ c r1 r2 (by rw [r3,Ty.eq_iff];simp [e1,e2,e3])
       · have e3': ¬c2=0:=fun h=>e3 (q3.1 h)
         simp(disch:=omega)[e2',e3']
         exact hQ c2 q1 q2 ⟨fun h=>absurd h e3',fun h=>absurd (by rw [h]) e3⟩
     · have e2': ¬cmpN t.s u.s=0:=fun h=>e2 ((ZEI _ _).1 h)
       have:=ZGp t.s u.s
       simp(disch:=omega)[e2']
       exact hQ _ this.1 this.2 ⟨fun h=>absurd h e2',fun h=>absurd (by rw [h]) e2⟩
   · have e1': ¬c1=0:=fun h=>e1 (p3.1 h)
     simp(disch:=omega)[e1']
     exact hQ c1 p1 p2 ⟨fun h=>absurd h e1',fun h=>absurd (by rw [h]) e1⟩
def ZEE (H:HG S) {t u:Ty} (h1:t.fw) (h2:u.fw) (hQ:Q [pb (dq (t=u))] []):Gives S Zcr [.agg t.cs,.agg u.cs] [] Q:=by
 refine .code H.typesEqual rfl ?_
 simp(disch:=omega)[Zpx]
 refine ZFZ H (t.sz+1) t u _ (Yz _) h1 h2 fun c _ _ hc=>?_
 by_cases h:c=0
 ·rw [ZDz (hc.1 h)] at hQ
  simp(disch:=omega)[h]
  exact hQ
 ·rw [ZDy fun h'=>h (hc.2 h')] at hQ
  simp(disch:=omega)[h]
  exact hQ
end Go.Am.Fe
end
section
namespace Go.Am.Fe
variable {S:SF} {Q:QF}
attribute [local simp] ZbO if_pos if_neg decide_eq_true decide_eq_false Yi Yj ZgF Ops.callv
abbrev Ty.zero:Ty:= .mk 0 [] 0 []
mutual
def Ty.rep (f:Ty->Option Ty):Ty->Ty
  | .mk k s n a=>match f (.mk k s n a) with
    | some u=>u
    | none=> .mk k s n (Ty.reps f a)
def Ty.reps (f:Ty->Option Ty):List Ty->List Ty
  | []=>[]
  | t::l=>Ty.rep f t::Ty.reps f l
end
mutual
def Ty.rep_id: ∀(t:Ty),t.rep (fun _=>none)=t
 | .mk k s n a=>by rw [Ty.rep];simp [Ty.reps_id a]
def Ty.reps_id: ∀(l:List Ty),Ty.reps (fun _=>none) l=l
 | []=>rfl
 | t::l=>by rw [Ty.reps,Ty.rep_id t,Ty.reps_id l]
end
noncomputable def Ty.pick (gs:List LN) (us:List Ty) (t:Ty):Option Ty:=if t.k=7/\t.s∈gs then us[gs.idxOf t.s]? else none
noncomputable def Ty.sub (gs:List LN) (us:List Ty) (t:Ty):Ty:=t.rep (Ty.pick gs us)
end Go.Am.Fe
end
section
namespace Go.Am.Fe
variable {S:SF} {Q:QF}
attribute [local simp] ZbO if_pos if_neg decide_eq_true decide_eq_false Yi Yj ZgF Ops.callv List.idxOf?_cons
def Nd.s:Nd->LN| .mk _ s _ _ _ _ _=>s
def Nd.n:Nd->Int| .mk _ _ n _ _ _ _=>n
def Nd.t:Nd->Ty| .mk _ _ _ t _ _ _=>t
def Nd.ts:Nd->List Ty| .mk _ _ _ _ t _ _=>t
def Nd.l:Nd->List Nd| .mk _ _ _ _ _ l _=>l
def Nd.z:Nd->Int| .mk _ _ _ _ _ _ z=>z
abbrev Nd.row (x:Nd):List P:=[.i x.op,.str x.s,.i x.n,.i x.t.k,.str x.t.s,.i x.t.n,.sl 4 (Ty.encs x.t.a),.sl 4 (Ty.encs x.ts),.sl 10 (Nd.encs x.l),.i x.z]
def Nd.enc_row (x:Nd):x.enc=x.row:=by obtain ⟨_,_,_,⟨_,_,_,_⟩,_,_,_⟩:=x;rfl
structure Pa where
 s:LN
 o:Int
 t:Ty
structure Me where
 s:LN
 ps:List Pa
 r:Ty
 e:Ty
structure As where
 s:LN
 bs:List LN
structure Pr where
 s:LN
 as:List As
 ms:List Me
structure Fi where
 s:LN
 t:Ty
 v:Bool
structure Ca where
 s:LN
 ts:List Ty
 i:Bool
structure No where
 s:LN
 k:Int
 gs:List LN
 m:Bool
 f:Bool
 fs:List Fi
 cs:List Ca
 d:Nd
structure Re where
 k:Int
 t:Ty
 p:LN
 o:Ty
structure Co where
 p:LN
 t:Ty
 gs:List LN
 rs:List Re
 ts:List Ty
 fs:List LN
structure Fu where
 s:LN
 gs:List LN
 rs:List Re
 ps:List Pa
 r:Ty
 e:Ty
 b:Nd
abbrev Pa.row (x:Pa):List P:=[.str x.s,.i x.o,.i x.t.k,.str x.t.s,.i x.t.n,.sl 4 (Ty.encs x.t.a)]
abbrev Me.row (x:Me):List P:=[.str x.s,.sl 6 (x.ps.map Pa.row),.i x.r.k,.str x.r.s,.i x.r.n,.sl 4 (Ty.encs x.r.a),.i x.e.k,.str x.e.s,.i x.e.n,.sl 4 (Ty.encs x.e.a)]
abbrev As.row (x:As):List P:=[.str x.s,.sl 1 (strs x.bs)]
abbrev Pr.row (x:Pr):List P:=[.str x.s,.sl 2 (x.as.map As.row),.sl 10 (x.ms.map Me.row)]
abbrev Fi.row (x:Fi):List P:=[.str x.s,.i x.t.k,.str x.t.s,.i x.t.n,.sl 4 (Ty.encs x.t.a),.bool x.v]
abbrev Ca.row (x:Ca):List P:=[.str x.s,.sl 4 (Ty.encs x.ts),.bool x.i]
abbrev No.row (x:No):List P:=[.str x.s,.i x.k,.sl 1 (strs x.gs),.bool x.m,.bool x.f,.sl 6 (x.fs.map Fi.row),.sl 3 (x.cs.map Ca.row),.i x.d.op,.str x.d.s,.i x.d.n,.i x.d.t.k,.str x.d.t.s,.i x.d.t.n,.sl 4 (Ty.encs x.d.t.a),.sl 4 (Ty.encs x.d.ts),.sl 10 (Nd.encs x.d.l),.i x.d.z]
abbrev Re.row (x:Re):List P:=[.i x.k,.i x.t.k,.str x.t.s,.i x.t.n,.sl 4 (Ty.encs x.t.a),.str x.p,.i x.o.k,.str x.o.s,.i x.o.n,.sl 4 (Ty.encs x.o.a)]
abbrev Co.row (x:Co):List P:=[.str x.p,.i x.t.k,.str x.t.s,.i x.t.n,.sl 4 (Ty.encs x.t.a),.sl 1 (strs x.gs),.sl 10 (x.rs.map Re.row),.sl 4 (Ty.encs x.ts),.sl 1 (strs x.fs)]
abbrev Fu.row (x:Fu):List P:=[.str x.s,.sl 1 (strs x.gs),.sl 10 (x.rs.map Re.row),.sl 6 (x.ps.map Pa.row),.i x.r.k,.str x.r.s,.i x.r.n,.sl 4 (Ty.encs x.r.a),.i x.e.k,.str x.e.s,.i x.e.n,.sl 4 (Ty.encs x.e.a),.i x.b.op,.str x.b.s,.i x.b.n,.i x.b.t.k,.str x.b.t.s,.i x.b.t.n,.sl 4 (Ty.encs x.b.t.a),.sl 4 (Ty.encs x.b.ts),.sl 10 (Nd.encs x.b.l),.i x.b.z]
def Ok {α:Type} (p:α->Prop) (l:List α):Prop:=l.length<=100000/\ ∀x∈l,p x
def Ok.get {α:Type} {p:α->Prop} {l:List α} (h:Ok p l) {j:Nat} (hj:j<l.length):p l[j]:=h.2 _ (Yl hj)
def Ty.fws_mem: ∀{l:List Ty},Ty.fws l-> ∀t∈l,t.fw
 | t::l,h,u,hu=>by
   rcases List.mem_cons.1 hu with rfl|hu
   · exact h.1
   · exact Ty.fws_mem h.2 u hu
def Pa.ok (x:Pa):Prop:=Sn x.s/\x.t.fw
def Me.ok (x:Me):Prop:=Sn x.s/\Ok Pa.ok x.ps/\x.r.fw/\x.e.fw
def As.ok (x:As):Prop:=Sn x.s/\x.bs.length<=100000
def Pr.ok (x:Pr):Prop:=Sn x.s/\Ok As.ok x.as/\Ok Me.ok x.ms
def Fi.ok (x:Fi):Prop:=Sn x.s/\x.t.fw
def Ca.ok (x:Ca):Prop:=Sn x.s/\Ok Ty.fw x.ts
def No.ok (x:No):Prop:=Sn x.s/\x.gs.length<=100000/\Ok Fi.ok x.fs/\Ok Ca.ok x.cs
def Re.ok (x:Re):Prop:=Sn x.p/\x.t.fw/\x.o.fw
def Co.ok (x:Co):Prop:=Sn x.p/\x.t.fw/\x.gs.length<=100000/\Ok Re.ok x.rs/\Ok Ty.fw x.ts/\x.fs.length<=100000
def Fu.ok (x:Fu):Prop:=Sx x.s/\x.gs.length<=100000/\Ok Re.ok x.rs/\Ok Pa.ok x.ps/\x.r.fw/\x.e.fw
def As.eq_iff {x y:As}:x=y↔x.s=y.s/\x.bs=y.bs:=by cases x;cases y;simp
def Fi.eq_iff {x y:Fi}:x=y↔x.s=y.s/\x.t=y.t/\x.v=y.v:=by cases x;cases y;simp
def Ca.eq_iff {x y:Ca}:x=y↔x.s=y.s/\x.ts=y.ts/\x.i=y.i:=by cases x;cases y;simp
def Re.eq_iff {x y:Re}:x=y↔x.k=y.k/\x.t=y.t/\x.p=y.p/\x.o=y.o:=by cases x;cases y;simp
def ZE5 {α β:Type} {f:α->β} {p:α->α->Bool}: ∀{l m:List α},(∀x∈l,∀y∈m,p x y=dq (f x=f y))->all2 p l m=dq (l.map f=m.map f)
 | [],[],_=>(ZDz rfl).symm
 | x::l,y::m,h=>by
   rw [all2,h x Yr y Yr,ZE5 fun a ha b hb=>h a (Yk _ ha) b (Yk _ hb)]
   by_cases h1:f x=f y
   · rw [ZDz h1,Bool.true_and]
     by_cases h2:l.map f=m.map f
     · rw [ZDz h2,ZDz (by simp [h1,h2])]
     · rw [ZDy h2,ZDy (by simp [h2])]
   · rw [ZDy h1,Bool.false_and,ZDy (by simp [h1])]
 | [],_::_,_=>(ZDy Zs).symm
 | _::_,[],_=>(ZDy Zs).symm
def ZEm {α:Type} {p:α->α->Bool} {l m:List α} (h: ∀x∈l,∀y∈m,p x y=dq (x=y)):all2 p l m=dq (l=m):=by
 have:=ZE5 (f:=id) h
 simpa using this
def ZEp (H:HG S) {l m:List Ty} (hl:Ok Ty.fw l) (hm:Ok Ty.fw m) (hQ:Q [pb (dq (l=m))] []):Gives S Zd7 [.one (.l 4 (Ty.encs l)),.one (.l 4 (Ty.encs m))] [] Q:=by
 refine .code H.ifaceSameTypesq rfl ?_
 simp(disch:=omega)[Zj9]
 rw [Ty.encs_rows,Ty.encs_rows]
 refine ZEU H.slicesEqualFuncLApiTypeLApiTypeApiTypeApiType rfl hl.1 hm.1 (fun _ _=>rfl) (fun _ _=>rfl) Pass.nil (p:=fun x y=>dq (x=y)) (fun x hx y hy Q hQ=>ZEE H (hl.2 x hx) (hm.2 y hy) hQ) ?_
 rw [ZEm fun _ _ _ _=>rfl]
 simp(disch:=omega)
 exact hQ
def ZGQ (H:HG S) {x y:Fi} (hx:x.ok) (hy:y.ok) (hQ:Q [pb (dq (x=y))] []):Gives S ZhY [.agg (x.row.map .p),.agg (y.row.map .p)] [] Q:=by
 refine .code H.ifaceSameFieldsX1q rfl ?_
 simp(disch:=omega)[ZDN]
 by_cases e1:x.s=y.s
 ·by_cases e2:x.v=y.v
  ·simp(disch:=omega)[e1,e2]
   refine ZEE H hx.2 hy.2 ?_
   simp(disch:=omega)
   rwa [show (x=y)=(x.t=y.t) from by simp [Fi.eq_iff,e1,e2]] at hQ
  ·rw [ZDy (by simp [Fi.eq_iff,e2])] at hQ
   simp(disch:=omega)[e1,beq_false_of_ne e2]
   exact hQ
 ·rw [ZDy (by simp [Fi.eq_iff,e1])] at hQ
  simp(disch:=omega)[e1]
  exact hQ
def ZFT (H:HG S) {l m:List Fi} (hl:Ok Fi.ok l) (hm:Ok Fi.ok m) (hQ:Q [pb (dq (l=m))] []):Gives S ZfS [.one (.l 6 (l.map Fi.row)),.one (.l 6 (m.map Fi.row))] [] Q:=by
 refine .code H.ifaceSameFieldsq rfl ?_
 simp(disch:=omega)[Zjw]
 refine ZEU H.slicesEqualFuncLApiFieldLApiFieldApiFieldApiField rfl hl.1 hm.1 (fun _ _=>rfl) (fun _ _=>rfl) Pass.nil (p:=fun x y=>dq (x=y)) (fun x hx y hy Q hQ=>ZGQ H (hl.2 x hx) (hm.2 y hy) hQ) ?_
 rw [ZEm fun _ _ _ _=>rfl]
 simp(disch:=omega)
 exact hQ
def ZGT (H:HG S) {x y:Ca} (hx:x.ok) (hy:y.ok) (hQ:Q [pb (dq (x=y))] []):Gives S Ze8 [.agg (x.row.map .p),.agg (y.row.map .p)] [] Q:=by
 refine .code H.ifaceSameCasesX1q rfl ?_
 simp(disch:=omega)[ZiE]
 by_cases e1:x.s=y.s
 ·by_cases e2:x.i=y.i
  ·simp(disch:=omega)[e1,e2]
   refine ZEp H hx.2 hy.2 ?_
   simp(disch:=omega)
   rwa [show (x=y)=(x.ts=y.ts) from by simp [Ca.eq_iff,e1,e2]] at hQ
  ·rw [ZDy (by simp [Ca.eq_iff,e2])] at hQ
   simp(disch:=omega)[e1,beq_false_of_ne e2]
   exact hQ
 ·rw [ZDy (by simp [Ca.eq_iff,e1])] at hQ
  simp(disch:=omega)[e1]
  exact hQ
def ZFA (H:HG S) {l m:List Ca} (hl:Ok Ca.ok l) (hm:Ok Ca.ok m) (hQ:Q [pb (dq (l=m))] []):Gives S Zgp [.one (.l 3 (l.map Ca.row)),.one (.l 3 (m.map Ca.row))] [] Q:=by
 refine .code H.ifaceSameCasesq rfl ?_
 simp(disch:=omega)[Zkf]
 refine ZEU H.slicesEqualFuncLApiCaseLApiCaseApiCaseApiCase rfl hl.1 hm.1 (fun _ _=>rfl) (fun _ _=>rfl) Pass.nil (p:=fun x y=>dq (x=y)) (fun x hx y hy Q hQ=>ZGT H (hl.2 x hx) (hm.2 y hy) hQ) ?_
 rw [ZEm fun _ _ _ _=>rfl]
 simp(disch:=omega)
 exact hQ
def ZG0 (H:HG S) {x y:Re} (hx:x.ok) (hy:y.ok) (hQ:Q [pb (dq (x=y))] []):Gives S Zjv [.agg (x.row.map .p),.agg (y.row.map .p)] [] Q:=by
 refine .code H.ifaceSameReqsX1q rfl ?_
 simp(disch:=omega)[ZDR]
 by_cases e1:x.k=y.k
 ·by_cases e2:x.p=y.p
  ·simp(disch:=omega)[e1,e2]
   refine ZEE H hx.2.1 hy.2.1 ?_
   by_cases e3:x.t=y.t
   ·rw [ZDz e3]
    simp(disch:=omega)
    refine ZEE H hx.2.2 hy.2.2 ?_
    simp(disch:=omega)
    rwa [show (x=y)=(x.o=y.o) from by simp [Re.eq_iff,e1,e2,e3]] at hQ
   ·rw [ZDy e3]
    rw [ZDy (by simp [Re.eq_iff,e3])] at hQ
    simp(disch:=omega)
    exact hQ
  ·rw [ZDy (by simp [Re.eq_iff,e2])] at hQ
   simp(disch:=omega)[e1,e2]
   exact hQ
 ·rw [ZDy (by simp [Re.eq_iff,e1])] at hQ
  simp(disch:=omega)[e1]
  exact hQ
def ZE4 (H:HG S) {l m:List Re} (hl:Ok Re.ok l) (hm:Ok Re.ok m) (hQ:Q [pb (dq (l=m))] []):Gives S ZgK [.one (.l 10 (l.map Re.row)),.one (.l 10 (m.map Re.row))] [] Q:=by
 refine .code H.ifaceSameReqsq rfl ?_
 simp(disch:=omega)[ZlO]
 refine ZEU H.slicesEqualFuncLApiReqLApiReqApiReqApiReq rfl hl.1 hm.1 (fun _ _=>rfl) (fun _ _=>rfl) Pass.nil (p:=fun x y=>dq (x=y)) (fun x hx y hy Q hQ=>ZG0 H (hl.2 x hx) (hm.2 y hy) hQ) ?_
 rw [ZEm fun _ _ _ _=>rfl]
 simp(disch:=omega)
 exact hQ
def Pa.bare (x:Pa):Int×Ty:=(x.o,x.t)
def ZGL (H:HG S) {x y:Pa} (hx:x.ok) (hy:y.ok) (hQ:Q [pb (dq (x.bare=y.bare))] []):Gives S ZeK [.agg (x.row.map .p),.agg (y.row.map .p)] [] Q:=by
 refine .code H.ifaceSameParamsX1q rfl ?_
 simp(disch:=omega)[Zh6]
 by_cases e1:x.o=y.o
 ·simp(disch:=omega)[e1]
  refine ZEE H hx.2 hy.2 ?_
  simp(disch:=omega)
  rwa [show (x.bare=y.bare)=(x.t=y.t) from by simp [Pa.bare,e1]] at hQ
 ·rw [ZDy (by simp [Pa.bare,e1])] at hQ
  simp(disch:=omega)[e1]
  exact hQ
def ZE0 (H:HG S) {l m:List Pa} (hl:Ok Pa.ok l) (hm:Ok Pa.ok m) (hQ:Q [pb (dq (l.map Pa.bare=m.map Pa.bare))] []):Gives S Zdy [.one (.l 6 (l.map Pa.row)),.one (.l 6 (m.map Pa.row))] [] Q:=by
 refine .code H.ifaceSameParamsq rfl ?_
 simp(disch:=omega)[ZjL]
 refine ZEU H.slicesEqualFuncLApiParamLApiParamApiParamApiParam rfl hl.1 hm.1 (fun _ _=>rfl) (fun _ _=>rfl) Pass.nil (p:=fun x y=>dq (x.bare=y.bare)) (fun x hx y hy Q hQ=>ZGL H (hl.2 x hx) (hm.2 y hy) hQ) ?_
 rw [ZE5 fun _ _ _ _=>rfl]
 simp(disch:=omega)
 exact hQ
def ZGR (H:HG S) {x y:As} (hx:x.ok) (hy:y.ok) (hQ:Q [pb (dq (x=y))] []):Gives S Zh9 [.agg (x.row.map .p),.agg (y.row.map .p)] [] Q:=by
 refine .code H.ifaceSameAssocsX1q rfl ?_
 simp(disch:=omega)[ZDM]
 by_cases e1:x.s=y.s
 ·simp(disch:=omega)[e1]
  refine ZGw H hx.2 hy.2 ?_
  simp(disch:=omega)
  rwa [show (x=y)=(x.bs=y.bs) from by simp [As.eq_iff,e1]] at hQ
 ·rw [ZDy (by simp [As.eq_iff,e1])] at hQ
  simp(disch:=omega)[e1]
  exact hQ
def ZFP (H:HG S) {l m:List As} (hl:Ok As.ok l) (hm:Ok As.ok m) (hQ:Q [pb (dq (l=m))] []):Gives S ZfF [.one (.l 2 (l.map As.row)),.one (.l 2 (m.map As.row))] [] Q:=by
 refine .code H.ifaceSameAssocsq rfl ?_
 simp(disch:=omega)[ZjB]
 refine ZEU H.slicesEqualFuncLApiAssocLApiAssocApiAssocApiAssoc rfl hl.1 hm.1 (fun _ _=>rfl) (fun _ _=>rfl) Pass.nil (p:=fun x y=>dq (x=y)) (fun x hx y hy Q hQ=>ZGR H (hl.2 x hx) (hm.2 y hy) hQ) ?_
 rw [ZEm fun _ _ _ _=>rfl]
 simp(disch:=omega)
 exact hQ
def Me.bare (x:Me):LN×List (Int×Ty)×Ty×Ty:=(x.s,x.ps.map Pa.bare,x.r,x.e)
def ZGO (H:HG S) {x y:Me} (hx:x.ok) (hy:y.ok) (hQ:Q [pb (dq (x.bare=y.bare))] []):Gives S Zel [.agg (x.row.map .p),.agg (y.row.map .p)] [] Q:=by
 refine .code H.ifaceSameMethodsX1q rfl ?_
 simp(disch:=omega)[Zhs]
 by_cases e1:x.s=y.s
 ·simp(disch:=omega)[e1]
  refine ZE0 H hx.2.1 hy.2.1 ?_
  by_cases e2:x.ps.map Pa.bare=y.ps.map Pa.bare
  ·rw [ZDz e2]
   simp(disch:=omega)
   refine ZEE H hx.2.2.1 hy.2.2.1 ?_
   by_cases e3:x.r=y.r
   ·rw [ZDz e3]
    simp(disch:=omega)
    refine ZEE H hx.2.2.2 hy.2.2.2 ?_
    simp(disch:=omega)
    rwa [show (x.bare=y.bare)=(x.e=y.e) from by simp [Me.bare,e1,e2,e3]] at hQ
   ·rw [ZDy e3]
    rw [ZDy (by simp [Me.bare,e3])] at hQ
    simp(disch:=omega)
    exact hQ
  ·rw [ZDy e2]
   rw [ZDy (by simp [Me.bare,e2])] at hQ
   simp(disch:=omega)
   exact hQ
 ·rw [ZDy (by simp [Me.bare,e1])] at hQ
  simp(disch:=omega)[e1]
  exact hQ
def ZFN (H:HG S) {l m:List Me} (hl:Ok Me.ok l) (hm:Ok Me.ok m) (hQ:Q [pb (dq (l.map Me.bare=m.map Me.bare))] []):Gives S Zfb [.one (.l 10 (l.map Me.row)),.one (.l 10 (m.map Me.row))] [] Q:=by
 refine .code H.ifaceSameMethodsq rfl ?_
 simp(disch:=omega)[ZiU]
 refine ZEU H.slicesEqualFuncLApiMethodLApiMethodApiMethodApiMethod rfl hl.1 hm.1 (fun _ _=>rfl) (fun _ _=>rfl) Pass.nil (p:=fun x y=>dq (x.bare=y.bare)) (fun x hx y hy Q hQ=>ZGO H (hl.2 x hx) (hm.2 y hy) hQ) ?_
 rw [ZE5 fun _ _ _ _=>rfl]
 simp(disch:=omega)
 exact hQ
structure Mo where
 ns:List No
 ps:List Pr
 cs:List Co
 fs:List Fu
abbrev Mo.cs' (m:Mo):LC:=[.l 17 (m.ns.map No.row),.l 3 (m.ps.map Pr.row),.l 9 (m.cs.map Co.row),.l 22 (m.fs.map Fu.row)]
def Mo.ok (m:Mo):Prop:=Ok No.ok m.ns/\Ok Pr.ok m.ps/\Ok Co.ok m.cs/\Ok Fu.ok m.fs
abbrev Nd.zero:Nd:= .mk 0 [] 0 .zero [] [] 0
abbrev No.zero:No:=⟨[],0,[],false,false,[],[],.zero⟩
abbrev Pr.zero:Pr:=⟨[],[],[]⟩
abbrev Fu.zero:Fu:=⟨[],[],[],[],.zero,.zero,.zero⟩
def ZEj {α:Type} {p:α->Prop} {l:List α} {j:Nat} (hj:j<l.length) (h: ∀x∈l.take j,p x) (h':p l[j]): ∀x∈l.take (j+1),p x:=fun x hx=>by
 rw [Ym,Ya hj,Ys] at hx
 rcases hx with hx|hx
 ·exact h x hx
 ·simp at hx;rw [hx];exact h'
def ZKS:Nd.zero.row=[.i 0,.str [],.i 0,.i 0,.str [],.i 0,.sl 4 [],.sl 4 [],.sl 10 [],.i 0]/\Ty.zero.row=[.i 0,.str [],.i 0,.sl 4 []]:=⟨rfl,rfl⟩
def ZFs (H:HG S) {l:List LN} (hl:l.length<=100000) (hQ:Q [.one (.l 1 (strs l))] []):Gives S ZiO [.one (.l 1 (strs l))] [] Q:=by
 have g0:(strs l).length=l.length:=by simp [strs]
 refine .code H.tableStrings rfl ?_
 simp(disch:=omega)[ZmM]
 refine .code H.tableListStringq rfl ?_
 simp(disch:=omega)[Zjb]
 refine Lp.rule (fun (j:Nat)=>[(1,.a (.one (.clo ZlD [] []))),(5,.a (.one (.tip 1 ((strs l).take j)))),(9,.a (.one (.l 1 (strs l)))),(10,.a (pi l.length)),(11,.a (pi j)),o9]) (fun j=>j<=l.length) (fun j=>l.length-j) (a₀:=0) (by simp [g0]) (Yd _) ?_
 intro j k1
 by_cases hj:j<l.length
 ·have e:(strs l)[j]'(by omega)=[.str l[j]]:=by simp [strs]
  simp(disch:=omega)[e]
  refine .code H.tableStringsX1 rfl ?_
  simp(disch:=omega)[ZDW]
  exact RdN.mk (j+1) (by rw [Ym,Ya Zo,e];rfl) hj Zo
 ·simp(disch:=omega)
  rw [Yg Zo]
  exact hQ
def ZEP (H:HG S): ∀(n:Nat) (t:Ty) (Q:QF),t.sz<n->t.fw->Q [.agg t.cs] []->Gives S ZdC [.agg t.cs] [] Q
 | 0,_,_,h,_,_=>absurd h (YH _)
 | n+1,t,Q,hs,ht,hQ=>by
   refine .code H.tableType rfl ?_
   simp(disch:=omega)[Zq9]
   rw [Ty.encs_rows]
   refine ZFJ H.tableListApiTypeq rfl (Ty.fw_len ht) (fun _ _=>rfl) Pass.nil (g:=Ty.row) (fun _ _=>rfl) (fun x hx Q hQ=>?_) ?_
   · obtain ⟨j,hj,rfl⟩:=YD hx
     exact ZEP H n _ _ (by have:=Ty.szs_get hj;have:=Ty.sz_a (t:=t);omega) (Ty.fws_get (Ty.fw_a ht) hj) hQ
   · rw [<-Ty.encs_rows]
     simp(disch:=omega)
     exact hQ
def ZEd (H:HG S) {t:Ty} (ht:t.fw) (hQ:Q [.agg t.cs] []):Gives S ZdC [.agg t.cs] [] Q:=ZEP H (t.sz+1) t Q (Yz _) ht hQ
def ZFG (H:HG S) {l:List Ty} (hl:Ok Ty.fw l) (hQ:Q [.one (.l 4 (Ty.encs l))] []):Gives S ZkM [.one (.l 4 (Ty.encs l))] [] Q:=by
 refine .code H.tableTypes rfl ?_
 simp(disch:=omega)[Zpi]
 rw [Ty.encs_rows]
 refine ZFJ H.tableListApiTypeq rfl hl.1 (fun _ _=>rfl) Pass.nil (g:=Ty.row) (fun _ _=>rfl) (fun x hx Q hQ=>ZEd H (hl.2 x hx) hQ) ?_
 rw [<-Ty.encs_rows]
 simp(disch:=omega)
 exact hQ
def ZGm (H:HG S) {x:Re} (hx:x.ok) (hQ:Q [.agg (x.row.map .p)] []):Gives S Zob [.agg (x.row.map .p)] [] Q:=by
 refine .code H.tableReqsX1 rfl ?_
 simp(disch:=omega)[ZD9]
 refine ZEd H hx.2.1 ?_
 simp(disch:=omega)
 refine ZEd H hx.2.2 ?_
 simp(disch:=omega)
 exact hQ
def ZFE (H:HG S) {l:List Re} (hl:Ok Re.ok l) (hQ:Q [.one (.l 10 (l.map Re.row))] []):Gives S Zmm [.one (.l 10 (l.map Re.row))] [] Q:=by
 refine .code H.tableReqs rfl ?_
 simp(disch:=omega)[Zrx]
 refine ZFJ H.tableListApiReqq rfl hl.1 (fun _ _=>rfl) Pass.nil (g:=Re.row) (fun _ _=>rfl) (fun x hx Q hQ=>ZGm H (hl.2 x hx) hQ) ?_
 simp(disch:=omega)
 exact hQ
def ZGh (H:HG S) {x:Pa} (hx:x.ok) (hQ:Q [.agg (x.row.map .p)] []):Gives S ZgE [.agg (x.row.map .p)] [] Q:=by
 refine .code H.tableParamsX1q rfl ?_
 simp(disch:=omega)[Zlg]
 refine ZEd H hx.2 ?_
 simp(disch:=omega)
 exact hQ
def ZFB (H:HG S) {l:List Pa} (hl:Ok Pa.ok l) (hQ:Q [.one (.uniq 6 (l.map Pa.row))] []):Gives S Ziw [.one (.l 6 (l.map Pa.row))] [] Q:=by
 have g:=hl.1
 refine .code H.tableParamsq rfl ?_
 simp(disch:=omega)[ZlV]
 refine .code H.tableListApiParamq rfl ?_
 simp(disch:=omega)[Zhu]
 refine Lp.rule (fun (j:Nat)=>[(1,.a (.one (.clo ZgE [] []))),(5,.a (.one (.uniq 6 ((l.map Pa.row).take j)))),(9,.a (.one (.l 6 (l.map Pa.row)))),(10,.a (pi l.length)),(11,.a (pi j)),o9]) (fun j=>j<=l.length) (fun j=>l.length-j) (a₀:=0) Zs (Yd _) ?_
 intro j k1
 by_cases hj:j<l.length
 ·simp(disch:=omega)
  refine ZGh H (hl.get hj) ?_
  simp(disch:=omega)
  exact RdN.mk (j+1) (by simp [Ym,Ya hj]) hj Zo
 ·simp(disch:=omega)
  rw [Yg Ze]
  exact hQ
def Nd.encs_rows: ∀(l:List Nd),Nd.encs l=l.map Nd.row
 | []=>rfl
 | t::l=>by rw [Nd.encs,Nd.encs_rows l,Nd.enc_row];rfl
def Nd.fits_get: ∀{l:List Nd} {j:Nat} (_:Nd.fits l) (h:j<l.length),l[j].fit
 | t::l,0,hf,_=>hf.1
 | t::l,j+1,hf,h=>Nd.fits_get (l:=l) hf.2 (by simpa using h)
def Nd.szs_get: ∀{l:List Nd} {j:Nat} (h:j<l.length),l[j].sz<=Nd.szs l
 | t::l,0,_=>by simp [Nd.szs]
 | t::l,j+1,h=>by have:=Nd.szs_get (l:=l) (j:=j) (by simpa using h);simp [Nd.szs];omega
def Nd.sz_l {t:Nd}:Nd.szs t.l<t.sz:=by obtain ⟨_,_,_,⟨_,_,_,_⟩,_,_,_⟩:=t;simp [Nd.sz,Nd.l,Ty.sz];omega
def Nd.fit_inv {x:Nd} (h:x.fit):x.t.fw/\Ok Ty.fw x.ts/\x.l.length<=100000/\Nd.fits x.l:=by
 cases x;exact ⟨Ty.fit_fw _ h.2.1,⟨h.2.2.1,Ty.fws_mem (Ty.fits_fw _ h.2.2.2.1)⟩,h.2.2.2.2.1,h.2.2.2.2.2.1⟩
def ZEO (H:HG S): ∀(n:Nat) (x:Nd) (Q:QF),x.sz<n->x.fit->Q [.agg (x.row.map .p)] []->Gives S Zjk [.agg (x.row.map .p)] [] Q
 | 0,_,_,h,_,_=>absurd h (YH _)
 | n+1,x,Q,hs,hx,hQ=>by
   obtain ⟨h1,h2,h3,h4⟩:=Nd.fit_inv hx
   refine .code H.tableNode rfl ?_
   simp(disch:=omega)[Zq8]
   refine ZEd H h1 ?_
   simp(disch:=omega)
   refine ZFG H h2 ?_
   simp(disch:=omega)
   rw [Nd.encs_rows]
   refine ZFJ H.tableListApiNodeq rfl h3 (fun _ _=>rfl) Pass.nil (g:=Nd.row) (fun _ _=>rfl) (fun y hy Q hQ=>?_) ?_
   · obtain ⟨j,hj,rfl⟩:=YD hy
     exact ZEO H n _ _ (by have:=Nd.szs_get hj;have:=Nd.sz_l (t:=x);omega) (Nd.fits_get h4 hj) hQ
   · rw [<-Nd.encs_rows]
     simp(disch:=omega)
     exact hQ
def Fu.ok' (x:Fu):Prop:=x.ok/\x.b.fit
abbrev Fu.uniq (x:Fu):LC:=[.s x.s,.l 1 (strs x.gs),.l 10 (x.rs.map Re.row),.uniq 6 (x.ps.map Pa.row),.i x.r.k,.s x.r.s,.i x.r.n,.l 4 (Ty.encs x.r.a),.i x.e.k,.s x.e.s,.i x.e.n,.l 4 (Ty.encs x.e.a),.i x.b.op,.s x.b.s,.i x.b.n,.i x.b.t.k,.s x.b.t.s,.i x.b.t.n,.l 4 (Ty.encs x.b.t.a),.l 4 (Ty.encs x.b.ts),.l 10 (Nd.encs x.b.l),.i x.b.z]
def ZGi (H:HG S) {x:Fu} (hx:x.ok') (hQ:Q [.agg x.uniq] []):Gives S ZhE [.agg (x.row.map .p)] [] Q:=by
 obtain ⟨⟨_,h1,h2,h3,h4,h5⟩,h6⟩:=hx
 refine .code H.tableCopyFunc rfl ?_
 simp(disch:=omega)[Zlr]
 refine ZFs H h1 ?_
 simp(disch:=omega)
 refine ZFE H h2 ?_
 simp(disch:=omega)
 refine ZFB H h3 ?_
 simp(disch:=omega)
 refine ZEd H h4 ?_
 simp(disch:=omega)
 refine ZEd H h5 ?_
 simp(disch:=omega)
 refine ZEO H _ _ _ (Yz _) h6 ?_
 simp(disch:=omega)
 exact hQ
abbrev Ty.par (g:LN):Ty:= .mk 7 g 0 []
noncomputable def Ty.put (gs hs:List LN) (t:Ty):Ty:=t.sub gs (hs.map Ty.par)
noncomputable def Re.put (gs hs:List LN) (x:Re):Re:=⟨x.k,x.t.put gs hs,x.p,x.o.put gs hs⟩
noncomputable def Pa.put (gs hs:List LN) (x:Pa):Pa:=⟨x.s,x.o,x.t.put gs hs⟩
noncomputable def Fu.put (hs:List LN) (x:Fu):Fu:=⟨x.s,hs,x.rs.map (Re.put x.gs hs),x.ps.map (Pa.put x.gs hs),x.r.put x.gs hs,x.e.put x.gs hs,x.b⟩
def Fu.okn (x:Fu):Prop:=x.ok/\Sns x.gs
def Ok.map {α β:Type} {p:α->Prop} {q:β->Prop} {f:α->β} {l:List α} (h:Ok p l) (hf: ∀x,p x->q (f x)):Ok q (l.map f):=⟨by rw [Yh];exact h.1,fun y hy=>by
 obtain ⟨x,hx,rfl⟩:=List.mem_map.1 hy;exact hf x (h.2 x hx)⟩
def Co.oks (x:Co):Prop:=x.ok/\x.t.s.length<=8000
abbrev Co.zero:Co:=⟨[],.zero,[],[],[],[]⟩
def Co.okn (x:Co):Prop:=x.oks/\Sns x.gs
end Go.Am.Fe
end
section
namespace Go.Am.Fe
variable {S:SF} {Q:QF}
attribute [local simp] ZbO if_pos if_neg decide_eq_true decide_eq_false Yi Yj ZgF Ops.callv List.idxOf?_cons
abbrev Rz:=Int×LN
abbrev Rz.row (x:Rz):List P:=[.i x.1,.str x.2]
def rzs (l:List Rz):LP:=l.map Rz.row
abbrev RS (m1 m2:Mo) (l:List Rz):LC:=[.l 17 (m1.ns.map No.row),.l 3 (m1.ps.map Pr.row),.l 9 (m1.cs.map Co.row),.l 22 (m1.fs.map Fu.row),.l 17 (m2.ns.map No.row),.l 3 (m2.ps.map Pr.row),.l 9 (m2.cs.map Co.row),.l 22 (m2.fs.map Fu.row),.tip 2 (rzs l)]
end Go.Am.Fe
end
