/- Part. -/
import Derived.Test.YtcdpeppblcijfaaGreatDoorSap
import Derived.Test.YtcdpeppblcijfaaGreatDoorSaj
set_option maxRecDepth 999999
set_option maxHeartbeats 0
set_option linter.all false
section
namespace Go.Am.Fe
variable {S:SF} {Q:QF}
attribute [local simp] ZbO if_pos if_neg decide_eq_true decide_eq_false Yi Yj ZgF Ops.callv
open Tx in
def idxC (s:Nat):SFunc:=⟨2,[],[.tmp 4],
 (q (r [mv (n 0) 4])
 (q (q (r [m 0 6,le 6 7,mv (n 0) 8])
 (k 0 (lo [0,1,7,8,9999] (q (r [o ls [v 8,v 7] 9])
 (q (i 9 e (ex 0))
 (q (k 1 (q (r [m 8 10,m 10 5])
 (q (r [m 1 11,m 0 12,m 5 13,ix s 12 (v 13) 14,ls2 s 14 15,cv 1 [v 11,v 15,v 9999] 16])
 (i 16 (q (r [m 5 17,m 17 4])
 .ret) e))))
 (r [o ad [v 8,n 1] 18,m 18 8])))))))
 (q (r [mv (n (-1)) 4])
 .ret)))⟩
def ZF4 {r:List P} {s:Nat} (h:r.length=s):List.take s (r.map C.p)=r.map C.p:=Yg Ze
def ZFW {α:Type} {N s:Nat} (hN:S N=some (.code (idxC s))) {f:Nat} {first caps:List R} {os:List LC} {l:List α} {w:α->List P} (hl:l.length<=100000) (hs: ∀x∈l,(w x).length=s) (ho:Pass os) (h1:PassR os.length first) (h2:PassR os.length caps)
  {p:α->Bool} (hp: ∀x∈l,∀Q,Q [pb (p x)] os->Gives S f (ZDB first caps [.agg ((w x).map .p)]) os Q) (hQ0:(∀x∈l,p x=false)->Q [pi (-1)] os) (hQ1: ∀j:Nat,(h:j<l.length)->p l[j]=true->(∀x∈l.take j,p x=false)->Q [pi j] os):
  Gives S N [.one (.p (.sl s (l.map w))),.one (.clo f first caps)] os Q:=by
 refine .code hN rfl ?_
 simp(disch:=omega)[idxC]
 refine Lp.rule (fun (j:Nat)=>[(0,.a (.one (.p (.sl s (l.map w))))),(1,.a (.one (.clo f first caps))),(7,.a (pi l.length)),(8,.a (pi j)),(9999,.objs os)]) (fun j=>j<=l.length/\ ∀r∈l.take j,p r=false) (fun j=>l.length-j) (a₀:=0) Zs ⟨Yd _,by simp⟩ ?_
 rintro j ⟨k1,k2⟩
 by_cases hj:j<l.length
 · have hm:=Yl hj
   have e:=hs _ hm
   simp(disch:=omega)[ZF4 e,ZFi h1 h2,ho.down,ho.up]
   refine hp _ hm _ ?_
   cases hb:p l[j]
   ·simp(disch:=omega)[ho.up,ho.fin]
    refine RdN.mk (j+1) rfl ⟨hj,fun r hr=>?_⟩ Zo
    rw [Ym,Ya hj,Ys] at hr
    rcases hr with hr|hr
    ·exact k2 r hr
    ·simp at hr;rw [hr];exact hb
   ·simp(disch:=omega)[ho.up,ho.fin]
    exact hQ1 j hj hb k2
 · simp(disch:=omega)[ho.fin]
   rw [Yg Zo] at k2
   exact hQ0 k2
open Tx in
def conC (g:Nat):SFunc:=⟨2,[],[.tmp 4],
 (q (r [mv (b false) 4])
 (q (r [mt 0 5,m 1 6,cp g 2 [v 5,v 6,v 9999] 7,o ge [v 7,n 0] 8,m 8 4])
 .ret))⟩
def ZFa {α:Type} {N M s:Nat} (hN:S N=some (.code (conC M))) (hM:S M=some (.code (idxC s))) {f:Nat} {first caps:List R} {os:List LC} {l:List α} {w:α->List P} (hl:l.length<=100000) (hs: ∀x∈l,(w x).length=s) (ho:Pass os) (h1:PassR os.length first) (h2:PassR os.length caps)
  {p:α->Bool} (hp: ∀x∈l,∀Q,Q [pb (p x)] os->Gives S f (ZDB first caps [.agg ((w x).map .p)]) os Q) (hQ:Q [pb (l.any p)] os):
  Gives S N [.one (.p (.sl s (l.map w))),.one (.clo f first caps)] os Q:=by
 refine .code hN rfl ?_
 simp(disch:=omega)[conC,ZFh h1 h2,ho.down,ho.up]
 refine ZFW hM hl hs ho h1 h2 hp (fun h=>?_) (fun j hj h h'=>?_)
 · rw [show l.any p=false from by simpa using h] at hQ
   simp(disch:=omega)[ho.up,ho.fin]
   exact hQ
 · rw [show l.any p=true from List.any_eq_true.2 ⟨_,Yl hj,h⟩] at hQ
   simp(disch:=omega)[ho.up,ho.fin]
   exact hQ
open Tx in
def eqfC (s:Nat) (z:LC):SFunc:=⟨3,[],[.tmp 6],
 (q (r [mv (b false) 6])
 (q (q (r [m 0 10,le 10 11,m 1 12,le 12 13,o ne [v 11,v 13] 14])
 (i 14 (q (r [mv (b false) 6])
 .ret) e))
 (q (q (r [mt 0 15,le 15 16,mv (n 0) 17])
 (k 0 (lo [1,2,15,16,17,9999] (q (r [o ls [v 17,v 16] 18])
 (q (i 18 e (ex 0))
 (q (k 1 (q (r [m 17 19,ix s 15 (v 17) 20,ls2 s 20 21,al 10008 z 8,m 19 7,su 10008 s 8 21])
 (q (r [m 1 22,m 7 23,ix s 22 (v 23) 24,ls2 s 24 25,al 10009 z 9,su 10009 s 9 25])
 (q (r [m 2 26,ln 10008 s 8 27,ln 10009 s 9 28,cv 2 [v 26,v 27,v 28,v 9999] 29,nt 29 30])
 (i 30 (q (r [mv (b false) 6])
 .ret) e)))))
 (r [o ad [v 17,n 1] 31,m 31 17])))))))
 (q (r [mv (b true) 6])
 .ret))))⟩
def all2 {α β:Type} (p:α->β->Bool):List α->List β->Bool
 | [],[]=>true
 | a::l,b::m=>p a b && all2 p l m
 | _,_=>false
def ZFv {α β:Type} {p:α->β->Bool}: ∀{l:List α} {m:List β},l.length≠m.length->all2 p l m=false
 | [],[],h=>absurd rfl h
 | _::_,_::_,h=>by rw [all2,ZFv (by simpa using h),Bool.and_false]
 | [],_::_,_=>rfl
 | _::_,[],_=>rfl
def putR {r:List P} {s:Nat} {z:LC} (h:r.length=s) (hz:z.length=s):put z 0 (r.map C.p)=some (r.map C.p):=by
 simp [put,h,hz]
def cutR {r:List P} {s:Nat} (h:r.length=s):cut (r.map C.p) 0 s=some (r.map C.p):=by
 simp [cut,h,ZF4 h]
def ZEU {α:Type} {N s:Nat} {z:LC} (hN:S N=some (.code (eqfC s z))) (hz:z.length=s) {f:Nat} {os:List LC} {l l':List α} {w:α->List P} (hl:l.length<=100000) (hl':l'.length<=100000) (hs: ∀x∈l,(w x).length=s) (hs': ∀x∈l',(w x).length=s) (ho:Pass os)
  {p:α->α->Bool} (hp: ∀x∈l,∀y∈l',∀Q,Q [pb (p x y)] os->Gives S f [.agg ((w x).map .p),.agg ((w y).map .p)] os Q) (hQ:Q [pb (all2 p l l')] os):
  Gives S N [.one (.p (.sl s (l.map w))),.one (.p (.sl s (l'.map w))),.one (.clo f [] [])] os Q:=by
 refine .code hN rfl ?_
 simp(disch:=omega)[eqfC]
 by_cases hll:l.length=l'.length
 · simp(disch:=omega)[hll]
   refine Lp.rule (fun (j:Nat)=>[(1,.a (.one (.p (.sl s (l'.map w))))),(2,.a (.one (.clo f [] []))),(15,.a (.one (.p (.sl s (l.map w))))),(16,.a (pi l'.length)),(17,.a (pi j)),(9999,.objs os)]) (fun j=>j<=l.length/\all2 p l l'=all2 p (l.drop j) (l'.drop j)) (fun j=>l.length-j) (a₀:=0) Zs ⟨Yd _,by simp⟩ ?_
   rintro j ⟨k1,k2⟩
   by_cases hj:j<l.length
   ·have hm:=Yl hj
    have hj':j<l'.length:=by omega
    have hm':=Yl hj'
    have e:=hs _ hm
    have e':=hs' _ hm'
    rw [List.drop_eq_getElem_cons hj,List.drop_eq_getElem_cons hj',all2] at k2
    have hc:=fun κ=>ho.ment (κ:=κ)
    have hd:z.drop (w l[j]).length=[]:=by simp [hz,e]
    have hd':z.drop (w l'[j]).length=[]:=by simp [hz,e']
    simp(disch:=omega)[ZF4 e,ZF4 e',ho.down,ho.up,hz,putR e hz,putR e' hz,hc,hd,hd',cutR e,cutR e']
    refine hp _ hm _ hm' _ ?_
    cases hb:p l[j] l'[j]
    ·simp(disch:=omega)[ho.up,ho.fin]
     rw [k2,hb] at hQ
     exact hQ
    ·simp(disch:=omega)[ho.up,ho.fin]
     exact RdN.mk (j+1) (by simp [hll]) ⟨hj,by rw [k2,hb,Bool.true_and]⟩ Zo
   ·simp(disch:=omega)[ho.fin]
    rw [List.drop_of_length_le Zo,List.drop_of_length_le Zo] at k2
    rw [k2] at hQ
    exact hQ
 · rw [show all2 p l l'=false from ZFv hll] at hQ
   simp(disch:=omega)[hll,ho.fin]
   exact hQ
open Tx in
def lisC (s:Nat) (z:LC):SFunc:=⟨2,[true],[.tmp 4],
 (q (r [mv (.c (.tip s [])) 4])
 (q (r [mv (.c (.tip s [])) 5])
 (q (q (r [mt 0 9,le 9 10,mv (n 0) 11])
 (k 0 (lo [1,5,9,10,11,9999] (q (r [o ls [v 11,v 10] 12])
 (q (i 12 e (ex 0))
 (q (k 1 (q (r [ix s 9 (v 11) 13,ls2 s 13 14,al 10007 z 7,su 10007 s 7 14])
 (q (r [m 1 15,ln 10007 s 7 16,cv 1 [v 15,v 16,v 9999] 17,al 10008 z 8,su 10008 s 8 17])
 (r [mt 5 18,ln 10008 s 8 19,bs s [v 19] 20,ap s 18 20 21,mt 21 5]))))
 (r [o ad [v 11,n 1] 22,m 22 11])))))))
 (q (r [mt 5 23,mt 23 4])
 .ret))))⟩
def ZFJ {N s:Nat} {z:LC} (hN:S N=some (.code (lisC s z))) (hz:z.length=s) {f:Nat} {os:List LC} {α:Type} {l:List α} {w:α->List P} (hl:l.length<=100000) (hs: ∀x∈l,(w x).length=s) (ho:Pass os)
  {g:α->List P} (hg: ∀x∈l,(g x).length=s) (hp: ∀x∈l,∀Q,Q [.agg ((g x).map .p)] os->Gives S f [.agg ((w x).map .p)] os Q) (hQ:Q [.one (.p (.sl s (l.map g)))] os):
  Gives S N [.one (.p (.sl s (l.map w))),.one (.clo f [] [])] os Q:=by
 refine .code hN rfl ?_
 simp(disch:=omega)[lisC]
 refine Lp.rule (fun (j:Nat)=>[(1,.a (.one (.clo f [] []))),(5,.a (.one (.tip s ((l.take j).map g)))),(9,.a (.one (.p (.sl s (l.map w))))),(10,.a (pi l.length)),(11,.a (pi j)),(9999,.objs os)]) (fun j=>j<=l.length) (fun j=>l.length-j) (a₀:=0) Zs (Yd _) ?_
 intro j k1
 by_cases hj:j<l.length
 · have hm:=Yl hj
   have e:=hs _ hm
   have e':=hg _ hm
   have hc:=fun κ=>ho.ment (κ:=κ)
   have hd:z.drop (w l[j]).length=[]:=by simp [hz,e]
   have hd':z.drop s=[]:=by simp [hz]
   have hd2: ∀h:C->C,(z.map h).drop s=[]:=by simp [hz]
   simp(disch:=omega)[ZF4 e,ho.down,ho.up,hz,putR e hz,hc,hd,cutR e]
   refine hp _ hm _ ?_
   simp(disch:=omega)[ZF4 e',ho.down,ho.up,ho.fin,hz,putR e' hz,hc,hd',hd2,cutR e',e']
   exact RdN.mk (j+1) (by simp [Ym,Ya hj]) hj Zo
 · simp(disch:=omega)[ho.fin]
   rw [Yg Ze]
   exact hQ
end Go.Am.Fe
end
section
namespace Go.Am.Fe
variable {S:SF} {Q:QF}
attribute [local simp] ZbO if_pos if_neg decide_eq_true decide_eq_false Yi Yj ZgF Ops.callv
def ZEL (H:HG S) {a b:Int} (hQ: ∀c:Int, -1<=c->c<=1->(c=0↔a=b)->Q [pi c] []):Gives S ZdR [pi a,pi b] [] Q:=by
 refine .code H.cmpCompareInt rfl ?_
 simp(disch:=omega)[ZlZ]
 refine .code H.cmpIsNaNIntq rfl ?_
 simp(disch:=omega)[Zne]
 refine .code H.cmpIsNaNIntq rfl ?_
 simp(disch:=omega)[Zne]
 rcases Int.lt_trichotomy a b with h|h|h
 ·simp(disch:=omega)[h]
  exact hQ _ Zo Zo Zo
 ·subst h
  simp(disch:=omega)
  exact hQ _ Zo Zo Zo
 ·simp(disch:=omega)[h]
  exact hQ _ Zo Zo Zo
def ZGe (H:HG S) {a b:LN} (hQ:Q [pi (cmpN a b)] []):Gives S Zg5 [ps a,ps b] [] Q:=by
 refine .code H.stringsCompare rfl ?_
 simp(disch:=omega)[ZlE]
 refine H.cmp _ _ ?_
 simp(disch:=omega)
 exact hQ
def ZGd (H:HG S) {a b c:Int} (hQ:Q [pi (if a≠0 then a else if b≠0 then b else c)] []):Gives S Zod [.one (.p (.sl 1 [[.i a],[.i b],[.i c]]))] [] Q:=by
 refine .code H.cmpOrInt rfl ?_
 simp(disch:=omega)[ZsJ]
 refine Lp.rule (fun (j:Nat)=>[(3,.a (pi 0)),(6,.a (.one (.p (.sl 1 [[.i a],[.i b],[.i c]])))),(7,.a (pi 3)),(8,.a (pi j)),o9]) (fun j=>j<=3/\(1<=j->a=0)/\(2<=j->b=0)/\(3<=j->c=0)) (fun j=>3-j) (a₀:=0) Zs Zo ?_
 rintro j ⟨k1,k2,k3,k4⟩
 obtain rfl|rfl|rfl|rfl:j=0∨j=1∨j=2∨j=3:=by omega
 ·by_cases h:a=0
  ·simp(disch:=omega)[h]
   exact RdN.mk 1 (by simp [h]) Zo Zo
  ·rw [if_pos h] at hQ
   simp(disch:=omega)[h]
   exact hQ
 ·obtain rfl:=k2 Zo
  by_cases h:b=0
  ·simp(disch:=omega)[h]
   exact RdN.mk 2 (by simp [h]) Zo Zo
  ·simp [h] at hQ
   simp(disch:=omega)[h]
   exact hQ
 ·obtain rfl:=k2 Zo
  obtain rfl:=k3 Zo
  by_cases h:c=0
  ·simp(disch:=omega)[h]
   exact RdN.mk 3 (by simp [h]) Zo Zo
  ·simp at hQ
   simp(disch:=omega)[h]
   exact hQ
 ·obtain rfl:=k2 Zo
  obtain rfl:=k3 Zo
  obtain rfl:=k4 Zo
  simp at hQ
  simp(disch:=omega)
  exact hQ
def ZGB (H:HG S) {l:List LN} {s:LN} (hl:l.length<=100000) (hQ0:s∉l->Q [pi (-1)] []) (hQ1: ∀j:Nat,(h:j<l.length)->l[j]=s->s∉l.take j->Q [pi j] []):Gives S ZcI [.one (.l 1 (strs l)),ps s] [] Q:=by
 have g0:(strs l).length=l.length:=by simp [strs]
 refine .code H.slicesIndexLStringString rfl ?_
 simp(disch:=omega)[ZfB]
 refine Lp.rule (fun (j:Nat)=>[(0,.a (.one (.l 1 (strs l)))),(1,.a (ps s)),(7,.a (pi l.length)),(8,.a (pi j)),o9]) (fun j=>j<=l.length/\s∉l.take j) (fun j=>l.length-j) (a₀:=0) (by simp [g0]) ⟨Yd _,by simp⟩ ?_
 rintro j ⟨k1,k2⟩
 by_cases hj:j<l.length
 ·have e:(strs l)[j]'(by omega)=[.str l[j]]:=by simp [strs]
  by_cases h:s=l[j]
  ·simp(disch:=omega)[e,h]
   exact hQ1 j hj h.symm k2
  ·simp(disch:=omega)[e,h]
   refine RdN.mk (j+1) rfl ⟨hj,?_⟩ Zo
   rw [Ym,Ya hj,Ys,not_or]
   exact ⟨k2,by simpa using h⟩
 ·simp(disch:=omega)
  rw [Yg Zo] at k2
  exact hQ0 k2
def ZGG (H:HG S) {l:List LN} {s:LN} (hl:l.length<=100000) (hQ:Q [pb (dq (s∈l))] []):Gives S Zkk [.one (.l 1 (strs l)),ps s] [] Q:=by
 refine .code H.slicesContainsLStringString rfl ?_
 simp(disch:=omega)[ZDD]
 refine ZGB H hl (fun h=>?_) (fun j hj h h'=>?_)
 ·rw [ZDy h] at hQ
  simp(disch:=omega)
  exact hQ
 ·rw [ZDz (by rw [<-h];exact Yl hj)] at hQ
  simp(disch:=omega)
  exact hQ
def ZGw (H:HG S) {l m:List LN} (hl:l.length<=100000) (hm:m.length<=100000) (hQ:Q [pb (dq (l=m))] []):Gives S Zmb [.one (.l 1 (strs l)),.one (.l 1 (strs m))] [] Q:=by
 have g0:(strs l).length=l.length:=by simp [strs]
 have g1:(strs m).length=m.length:=by simp [strs]
 refine .code H.slicesEqualLStringString rfl ?_
 simp(disch:=omega)[ZDE]
 by_cases hlm:l.length=m.length
 ·simp(disch:=omega)[hlm,g0,g1]
  refine Lp.rule (fun (j:Nat)=>[(0,.a (.one (.l 1 (strs l)))),(1,.a (.one (.l 1 (strs m)))),(12,.a (pi m.length)),(13,.a (pi j)),o9]) (fun j=>j<=l.length/\l.take j=m.take j) (fun j=>l.length-j) (a₀:=0) (by simp [g0,hlm]) ⟨Yd _,by simp⟩ ?_
  rintro j ⟨k1,k2⟩
  by_cases hj:j<l.length
  ·have e:(strs l)[j]'(by omega)=[.str l[j]]:=by simp [strs]
   have e':(strs m)[j]'(by omega)=[.str (m[j]'(by omega))]:=by simp [strs]
   by_cases h:l[j]=m[j]'(by omega)
   ·simp(disch:=omega)[e,e',h]
    exact RdN.mk (j+1) (by simp [hlm]) ⟨hj,by rw [Ym,Ym,k2,Ya hj,Ya Zo,h]⟩ Zo
   ·simp(disch:=omega)[e,e',h]
    rw [ZDy (by rintro rfl;exact h rfl)] at hQ
    exact hQ
  ·simp(disch:=omega)
   rw [Yg Zo,Yg Zo] at k2
   rw [ZDz k2] at hQ
   exact hQ
 ·simp(disch:=omega)[hlm,g0,g1]
  rw [ZDy (by rintro rfl;exact hlm rfl)] at hQ
  exact hQ
end Go.Am.Fe
end
section
namespace Go.Am.Fe
variable {S:SF} {Q:QF}
attribute [local simp] ZbO if_pos if_neg decide_eq_true decide_eq_false Yi Yj ZgF Ops.callv Ty.encs_length
def Ty.encs_get {l:List Ty} {j:Nat} (h:j<(Ty.encs l).length):(Ty.encs l)[j]=(l[j]'(by simpa using h)).row:=by
 simp only [Ty.encs_rows,List.getElem_map]
mutual
def Ty.fw:Ty->Prop
 | .mk k _ n args=>args.length<=100000/\(k=7->n=0/\args=[])/\Ty.fws args
def Ty.fws:List Ty->Prop
 | []=>True
 | t::l=>t.fw/\Ty.fws l
end
mutual
def Ty.fit_fw: ∀(t:Ty),t.fit->t.fw
 | .mk _ _ _ a,h=>⟨h.2.1,h.2.2.1.2.1,Ty.fits_fw a h.2.2.2⟩
def Ty.fits_fw: ∀(l:List Ty),Ty.fits l->Ty.fws l
 | [],_=>trivial
 | t::l,h=>⟨Ty.fit_fw t h.1,Ty.fits_fw l h.2⟩
end
def Ty.fws_get: ∀{l:List Ty} {j:Nat} (_:Ty.fws l) (h:j<l.length),l[j].fw
 | t::l,0,hf,_=>hf.1
 | t::l,j+1,hf,h=>Ty.fws_get (l:=l) hf.2 (by simpa using h)
def Ty.szs_get: ∀{l:List Ty} {j:Nat} (h:j<l.length),l[j].sz<=Ty.szs l
 | t::l,0,_=>by simp [Ty.szs]
 | t::l,j+1,h=>by have:=Ty.szs_get (l:=l) (j:=j) (by simpa using h);simp [Ty.szs];omega
def Ty.fw_len {t:Ty} (h:t.fw):t.a.length<=100000:=by cases t;exact h.1
def Ty.fw_a {t:Ty} (h:t.fw):Ty.fws t.a:=by cases t;exact h.2.2
def Ty.sz_a {t:Ty}:Ty.szs t.a<t.sz:=by cases t;simp [Ty.sz,Ty.a]
def Ty.eq_iff {t u:Ty}:t=u↔t.k=u.k/\t.s=u.s/\t.n=u.n/\t.a=u.a:=⟨fun h=>by subst h;simp,fun ⟨a,b,c,d⟩=>Ty.ext a b c d⟩
def CmpQ (S:SF) (n:Nat):Prop:= ∀(t u:Ty) (Q:QF),t.sz<n->t.fw->u.fw->(∀c:Int, -1<=c->c<=1->(c=0↔t=u)->Q [pi c] [])->Gives S Zfu [.agg t.cs,.agg u.cs] [] Q
def ZGv (H:HG S) {n:Nat} (ih:CmpQ S n) {a b:List Ty} (hs:Ty.szs a<n) (ha:a.length<=100000) (hb:b.length<=100000) (ha':Ty.fws a) (hb':Ty.fws b) (hQ: ∀c:Int, -1<=c->c<=1->(c=0↔a=b)->Q [pi c] []):
  Gives S ZeX [.one (.l 4 (Ty.encs a)),.one (.l 4 (Ty.encs b)),.one (.clo Zfu [] [])] [] Q:=by
 have ga:=Ty.encs_length (a:=a)
 have gb:=Ty.encs_length (a:=b)
 refine .code H.typesListsApiTypeq rfl ?_
 simp(disch:=omega)[ZhH]
 refine Lp.rule (fun (j:Nat)=>[(0,.a (.one (.l 4 (Ty.encs a)))),(1,.a (.one (.l 4 (Ty.encs b)))),(2,.a (.one (.clo Zfu [] []))),(7,.a (pi j)),o9]) (fun j=>j<=a.length/\j<=b.length/\a.take j=b.take j) (fun j=>a.length-j) (a₀:=0) Zs ⟨Yd _,Yd _,by simp⟩ ?_
 rintro j ⟨k1,k2,k3⟩
 have fin: ¬(j<a.length/\j<b.length)->((a.length:Int)=b.length↔a=b):=fun h=>⟨fun h'=>by
  rwa [Yg Zo,Yg Zo] at k3,fun h'=>by rw [h']⟩
 by_cases hj:j<a.length
 ·by_cases hj':j<b.length
  ·have e:=Ty.encs_get (l:=a) (j:=j) (by simpa using hj)
   have e':=Ty.encs_get (l:=b) (j:=j) (by simpa using hj')
   simp(disch:=omega)[e,e']
   refine ih a[j] b[j] _ (by have:=Ty.szs_get hj;omega) (Ty.fws_get ha' hj) (Ty.fws_get hb' hj') fun c c1 c2 hc=>?_
   by_cases h0:c=0
   ·have:=hc.1 h0
    simp(disch:=omega)[h0]
    exact RdN.mk (j+1) rfl ⟨hj,hj',by rw [Ym,Ym,k3,Ya hj,Ya hj',this]⟩ Zo
   ·simp(disch:=omega)[h0]
    refine hQ c c1 c2 ⟨fun h=>absurd h h0,fun h=>?_⟩
    subst h
    exact absurd (hc.2 rfl) h0
  ·simp(disch:=omega)
   refine ZEL H fun c c1 c2 hc=>?_
   simp(disch:=omega)
   exact hQ c c1 c2 (hc.trans (fin Zo))
 ·simp(disch:=omega)
  refine ZEL H fun c c1 c2 hc=>?_
  simp(disch:=omega)
  exact hQ c c1 c2 (hc.trans (fin Zo))
def ZFZ (H:HG S): ∀n,CmpQ S n
 | 0=>fun _ _ _ h=>absurd h (YH _)
 | n+1=>fun t u Q hs h1 h2 hQ=>by
   have ih:=ZFZ H n
   refine .code H.typesCompareq rfl ?_
   simp(disch:=omega)[ZlW]
   refine ZEL H fun c1 p1 p2 p3=>?_
   simp(disch:=omega)
   refine ZGe H ?_
   simp(disch:=omega)
   refine ZEL H fun c2 q1 q2 q3=>?_
   simp(disch:=omega)
   refine ZGd H ?_
   simp(disch:=omega)
   by_cases e1:t.k=u.k
   · obtain rfl:=p3.2 e1
     by_cases e2:t.s=u.s
     · have e2':=(ZEI _ _).2 e2
       by_cases e3:t.n=u.n
       · obtain rfl:=q3.2 e3
         simp(disch:=omega)[e2']
         refine ZGv H ih (by have:=Ty.sz_a (t:=t);omega) (Ty.fw_len h1) (Ty.fw_len h2) (Ty.fw_a h1) (Ty.fw_a h2) fun c r1 r2 r3=>?_
         simp(disch:=omega)
         exact hQ c r1 r2 (by rw [r3,Ty.eq_iff];simp [e1,e2,e3])
       · have e3': ¬c2=0:=fun h=>e3 (q3.1 h)
         simp(disch:=omega)[e2',e3']
         exact hQ c2 q1 q2 ⟨fun h=>absurd h e3',fun h=>absurd (by rw [h]) e3⟩
     · have e2': ¬cmpN t.s u.s=0:=fun h=>e2 ((ZEI _ _).1 h)
       have:=ZGp t.s u.s
       simp(disch:=omega)[e2']
       exact hQ _ this.1 this.2 ⟨fun h=>absurd h e2',fun h=>absurd (by rw [h]) e2⟩
   · have e1': ¬c1=0:=fun h=>e1 (p3.1 h)
     simp(disch:=omega)[e1']
     exact hQ c1 p1 p2 ⟨fun h=>absurd h e1',fun h=>absurd (by rw [h]) e1⟩
def ZEE (H:HG S) {t u:Ty} (h1:t.fw) (h2:u.fw) (hQ:Q [pb (dq (t=u))] []):Gives S Zcr [.agg t.cs,.agg u.cs] [] Q:=by
 refine .code H.typesEqual rfl ?_
 simp(disch:=omega)[Zpx]
 refine ZFZ H (t.sz+1) t u _ (Yz _) h1 h2 fun c _ _ hc=>?_
 by_cases h:c=0
 ·rw [ZDz (hc.1 h)] at hQ
  simp(disch:=omega)[h]
  exact hQ
 ·rw [ZDy fun h'=>h (hc.2 h')] at hQ
  simp(disch:=omega)[h]
  exact hQ
end Go.Am.Fe
end
section
namespace Go.Am.Fe
variable {S:SF} {Q:QF}
attribute [local simp] ZbO if_pos if_neg decide_eq_true decide_eq_false Yi Yj ZgF Ops.callv
abbrev Ty.zero:Ty:= .mk 0 [] 0 []
mutual
def Ty.rep (f:Ty->Option Ty):Ty->Ty
  | .mk k s n a=>match f (.mk k s n a) with
    | some u=>u
    | none=> .mk k s n (Ty.reps f a)
def Ty.reps (f:Ty->Option Ty):List Ty->List Ty
  | []=>[]
  | t::l=>Ty.rep f t::Ty.reps f l
end
def Ty.reps_map {f:Ty->Option Ty}: ∀{l:List Ty},Ty.reps f l=l.map (Ty.rep f)
 | []=>rfl
 | t::l=>by rw [Ty.reps,Ty.reps_map];rfl
theorem Ty.rep_eq {f:Ty->Option Ty} {t:Ty}:t.rep f=match f t with|some u=>u|none=> .mk t.k t.s t.n (t.a.map (Ty.rep f)):=by
 cases t;rw [Ty.rep,Ty.reps_map];rfl
def Ty.rep_some {f:Ty->Option Ty} {t u:Ty} (h:f t=some u):t.rep f=u:=by rw [Ty.rep_eq,h]
def Ty.rep_none {f:Ty->Option Ty} {t:Ty} (h:f t=none):t.rep f= .mk t.k t.s t.n (t.a.map (Ty.rep f)):=by rw [Ty.rep_eq,h]
def Ty.encs_snoc {l:List Ty} {t:Ty}:Ty.encs (l++[t])=Ty.encs l++[t.row]:=by simp only [Ty.encs_rows,YB,Yp,List.map_nil]
def Ty.encs_nil:Ty.encs []=[]:=rfl
def ZGF (H:HG S) {cf:Nat} {first caps:List R} {os:List LC} (ho:Pass os) (h1:PassR os.length first) (h2:PassR os.length caps) {f:Ty->Option Ty}
   (hf: ∀(t:Ty) (Q:QF),t.fw->Q [.agg ((f t).getD .zero).cs,pb (f t).isSome] os->Gives S cf (ZDB first caps [.agg t.cs]) os Q):
   ∀(n:Nat) (t:Ty) (Q:QF),t.sz<n->t.fw->Q [.agg (t.rep f).cs] os->Gives S Zdb [.agg t.cs,.one (.clo cf first caps)] os Q
 | 0,_,_,h,_,_=>absurd h (YH _)
 | n+1,t,Q,hs,ht,hQ=>by
   have ih:=ZGF H ho h1 h2 hf n
   have hc:=fun κ=>ho.ment (κ:=κ)
   have hcl:=ZFt h1 h2
   refine .code H.typesReplacedq rfl ?_
   simp(disch:=omega)[Zk7,ZGc h1 h2,ho.down,hc,hcl]
   refine hf t _ ht ?_
   cases hft:f t with
   | some u=>
     rw [Ty.rep_some hft] at hQ
     simp(disch:=omega)[ho.up,ho.fin,hc,hcl]
     exact hQ
   | none=>
     rw [Ty.rep_none hft] at hQ
     have ga:=Ty.encs_length (a:=t.a)
     have hl:=Ty.fw_len ht
     simp(disch:=omega)[ho.up,ho.fin,hc,hcl]
     refine Lp.rule (fun (j:Nat)=>[(1,.a (.one (.clo cf first caps))),fR 4,fR 7,(22,.a (.one (.l 4 (Ty.encs t.a)))),(23,.a (pi t.a.length)),(24,.a (pi j)),(9999,.objs os),(10004,.a (.agg Tx.zT)),(10007,.a (.agg [.i t.k,.s t.s,.i t.n,.tip 4 (Ty.encs ((t.a.map (Ty.rep f)).take j))]))]) (fun j=>j<=t.a.length) (fun j=>t.a.length-j) (a₀:=0) (by simp [ga,Ty.encs_nil]) (Yd _) ?_
     intro j k1
     by_cases hj:j<t.a.length
     · have e:=Ty.encs_get (l:=t.a) (j:=j) Zo
       have gb:=Ty.encs_length (a:=(t.a.map (Ty.rep f)).take j)
       rw [List.length_take,Yh] at gb
       simp(disch:=omega)[e,ho.down,hc,hcl,ZFh h1 h2]
       refine ih t.a[j] _ (by have:=Ty.szs_get hj;have:=Ty.sz_a (t:=t);omega) (Ty.fws_get (Ty.fw_a ht) hj) ?_
       simp(disch:=omega)[ho.up,ho.fin,hc,hcl]
       exact RdN.mk (j+1) (by simp [Ym,Ya hj,Ty.encs_snoc]) hj Zo
     · simp(disch:=omega)[ho.fin]
       rw [Yg Ze]
       exact hQ
mutual
def Ty.rep_id: ∀(t:Ty),t.rep (fun _=>none)=t
 | .mk k s n a=>by rw [Ty.rep];simp [Ty.reps_id a]
def Ty.reps_id: ∀(l:List Ty),Ty.reps (fun _=>none) l=l
 | []=>rfl
 | t::l=>by rw [Ty.reps,Ty.rep_id t,Ty.reps_id l]
end
def ZGg (H:HG S) {t:Ty} (ht:t.fw) (hQ:Q [.agg t.cs] []):Gives S Zii [.agg t.cs] [] Q:=by
 refine .code H.typesCopiedq rfl ?_
 simp(disch:=omega)[Znl]
 refine ZGF H Pass.nil PassR.nil PassR.nil (f:=fun _=>none) (fun u Q hu hQ=>?_) (t.sz+1) t _ (Yz _) ht ?_
 ·rw [ZE7]
  refine .code H.typesCopiedX1q rfl ?_
  simp(disch:=omega)[Zlh]
  exact hQ
 ·rw [Ty.rep_id]
  simp(disch:=omega)
  exact hQ
noncomputable def Ty.pick (gs:List LN) (us:List Ty) (t:Ty):Option Ty:=if t.k=7/\t.s∈gs then us[gs.idxOf t.s]? else none
noncomputable def Ty.sub (gs:List LN) (us:List Ty) (t:Ty):Ty:=t.rep (Ty.pick gs us)
def ZE9 {gs:List LN} {s:LN} {j:Nat} (hj:j<gs.length) (h:gs[j]=s) (h':s∉gs.take j):gs.idxOf s=j:=by
 induction gs generalizing j with
 | nil=>simp at hj
 | cons g gs ih=>
   cases j with
   | zero=>simp at h;subst h;simp
   | succ j=>
     simp at h h'
     rw [List.idxOf_cons,show (g==s)=false from by simpa using Ne.symm h'.1,cond_false,ih (by simpa using hj) h h'.2]
def ZGD (H:HG S) {gs:List LN} {us:List Ty} (hg:gs.length<=100000) (hu:us.length<=100000) (hu':Ty.fws us) {t:Ty}
  (hQ:Q [.agg ((t.pick gs us).getD .zero).cs,pb (t.pick gs us).isSome] [[.l 1 (strs gs)],[.l 4 (Ty.encs us)]]):
  Gives S Zin [.agg t.cs,.one (.ref ⟨false,0,0⟩),.one (.ref ⟨false,1,0⟩)] [[.l 1 (strs gs)],[.l 4 (Ty.encs us)]] Q:=by
 have ga:=Ty.encs_length (a:=us)
 refine .code H.typesSubstX1 rfl ?_
 simp(disch:=omega)[Znr]
 by_cases hk:t.k=7
 ·simp(disch:=omega)[hk]
  refine ZGB H hg (fun h=>?_) (fun j hj h h'=>?_)
  ·rw [show t.pick gs us=none by simp [Ty.pick,h]] at hQ
   simp(disch:=omega)
   exact hQ
  ·have e0:t.pick gs us=us[j]? :=by
    have hm:t.s∈gs:=by rw [<-h];exact Yl hj
    rw [Ty.pick,if_pos ⟨hk,hm⟩,ZE9 hj h h']
   by_cases hjl:j<us.length
   ·rw [e0,Ya hjl] at hQ
    have e:=Ty.encs_get (l:=us) (j:=j) Zo
    simp(disch:=omega)[e]
    refine ZGg H (Ty.fws_get hu' hjl) ?_
    simp(disch:=omega)
    exact hQ
   ·rw [e0,List.getElem?_eq_none Zo] at hQ
    simp(disch:=omega)
    exact hQ
 ·rw [show t.pick gs us=none by simp [Ty.pick,hk]] at hQ
  simp(disch:=omega)[hk]
  exact hQ
def ZG1 (H:HG S) {gs:List LN} {us:List Ty} (hg:gs.length<=100000) (hu:us.length<=100000) (hu':Ty.fws us) {t:Ty} (ht:t.fw) (hQ:Q [.agg (t.sub gs us).cs] []):
  Gives S ZkQ [.agg t.cs,.one (.l 1 (strs gs)),.one (.l 4 (Ty.encs us))] [] Q:=by
 refine .code H.typesSubst rfl ?_
 simp(disch:=omega)[Zqd,cloR,List.idxOf?_cons]
 refine ZGF H (cf:=Zin) (first:=[]) (caps:=[⟨false,0,0⟩,⟨false,1,0⟩]) (f:=Ty.pick gs us) (os:=[[.l 1 (strs gs)],[.l 4 (Ty.encs us)]]) ⟨rfl,rfl,by simp [C.clean]⟩ PassR.nil (by simp [PassR]) (fun u Q hu2 hQ=>ZGD H hg hu hu' hQ) (t.sz+1) t _ (Yz _) ht ?_
 simp(disch:=omega)
 exact hQ
end Go.Am.Fe
end
section
namespace Go.Am.Fe
variable {S:SF} {Q:QF}
attribute [local simp] ZbO if_pos if_neg decide_eq_true decide_eq_false Yi Yj ZgF Ops.callv List.idxOf?_cons
def Nd.s:Nd->LN| .mk _ s _ _ _ _ _=>s
def Nd.n:Nd->Int| .mk _ _ n _ _ _ _=>n
def Nd.t:Nd->Ty| .mk _ _ _ t _ _ _=>t
def Nd.ts:Nd->List Ty| .mk _ _ _ _ t _ _=>t
def Nd.l:Nd->List Nd| .mk _ _ _ _ _ l _=>l
def Nd.z:Nd->Int| .mk _ _ _ _ _ _ z=>z
abbrev Nd.row (x:Nd):List P:=[.i x.op,.str x.s,.i x.n,.i x.t.k,.str x.t.s,.i x.t.n,.sl 4 (Ty.encs x.t.a),.sl 4 (Ty.encs x.ts),.sl 10 (Nd.encs x.l),.i x.z]
def Nd.enc_row (x:Nd):x.enc=x.row:=by obtain ⟨_,_,_,⟨_,_,_,_⟩,_,_,_⟩:=x;rfl
structure Pa where
 s:LN
 o:Int
 t:Ty
structure Me where
 s:LN
 ps:List Pa
 r:Ty
 e:Ty
structure As where
 s:LN
 bs:List LN
structure Pr where
 s:LN
 as:List As
 ms:List Me
structure Fi where
 s:LN
 t:Ty
 v:Bool
structure Ca where
 s:LN
 ts:List Ty
 i:Bool
structure No where
 s:LN
 k:Int
 gs:List LN
 m:Bool
 f:Bool
 fs:List Fi
 cs:List Ca
 d:Nd
structure Re where
 k:Int
 t:Ty
 p:LN
 o:Ty
structure Co where
 p:LN
 t:Ty
 gs:List LN
 rs:List Re
 ts:List Ty
 fs:List LN
structure Fu where
 s:LN
 gs:List LN
 rs:List Re
 ps:List Pa
 r:Ty
 e:Ty
 b:Nd
abbrev Pa.row (x:Pa):List P:=[.str x.s,.i x.o,.i x.t.k,.str x.t.s,.i x.t.n,.sl 4 (Ty.encs x.t.a)]
abbrev Me.row (x:Me):List P:=[.str x.s,.sl 6 (x.ps.map Pa.row),.i x.r.k,.str x.r.s,.i x.r.n,.sl 4 (Ty.encs x.r.a),.i x.e.k,.str x.e.s,.i x.e.n,.sl 4 (Ty.encs x.e.a)]
abbrev As.row (x:As):List P:=[.str x.s,.sl 1 (strs x.bs)]
abbrev Pr.row (x:Pr):List P:=[.str x.s,.sl 2 (x.as.map As.row),.sl 10 (x.ms.map Me.row)]
abbrev Fi.row (x:Fi):List P:=[.str x.s,.i x.t.k,.str x.t.s,.i x.t.n,.sl 4 (Ty.encs x.t.a),.bool x.v]
abbrev Ca.row (x:Ca):List P:=[.str x.s,.sl 4 (Ty.encs x.ts),.bool x.i]
abbrev No.row (x:No):List P:=[.str x.s,.i x.k,.sl 1 (strs x.gs),.bool x.m,.bool x.f,.sl 6 (x.fs.map Fi.row),.sl 3 (x.cs.map Ca.row),.i x.d.op,.str x.d.s,.i x.d.n,.i x.d.t.k,.str x.d.t.s,.i x.d.t.n,.sl 4 (Ty.encs x.d.t.a),.sl 4 (Ty.encs x.d.ts),.sl 10 (Nd.encs x.d.l),.i x.d.z]
abbrev Re.row (x:Re):List P:=[.i x.k,.i x.t.k,.str x.t.s,.i x.t.n,.sl 4 (Ty.encs x.t.a),.str x.p,.i x.o.k,.str x.o.s,.i x.o.n,.sl 4 (Ty.encs x.o.a)]
abbrev Co.row (x:Co):List P:=[.str x.p,.i x.t.k,.str x.t.s,.i x.t.n,.sl 4 (Ty.encs x.t.a),.sl 1 (strs x.gs),.sl 10 (x.rs.map Re.row),.sl 4 (Ty.encs x.ts),.sl 1 (strs x.fs)]
abbrev Fu.row (x:Fu):List P:=[.str x.s,.sl 1 (strs x.gs),.sl 10 (x.rs.map Re.row),.sl 6 (x.ps.map Pa.row),.i x.r.k,.str x.r.s,.i x.r.n,.sl 4 (Ty.encs x.r.a),.i x.e.k,.str x.e.s,.i x.e.n,.sl 4 (Ty.encs x.e.a),.i x.b.op,.str x.b.s,.i x.b.n,.i x.b.t.k,.str x.b.t.s,.i x.b.t.n,.sl 4 (Ty.encs x.b.t.a),.sl 4 (Ty.encs x.b.ts),.sl 10 (Nd.encs x.b.l),.i x.b.z]
def Ok {α:Type} (p:α->Prop) (l:List α):Prop:=l.length<=100000/\ ∀x∈l,p x
def Ok.get {α:Type} {p:α->Prop} {l:List α} (h:Ok p l) {j:Nat} (hj:j<l.length):p l[j]:=h.2 _ (Yl hj)
def Ty.fws_mem: ∀{l:List Ty},Ty.fws l-> ∀t∈l,t.fw
 | t::l,h,u,hu=>by
   rcases List.mem_cons.1 hu with rfl|hu
   · exact h.1
   · exact Ty.fws_mem h.2 u hu
def Ty.mem_fws: ∀{l:List Ty},(∀t∈l,t.fw)->Ty.fws l
 | [],_=>trivial
 | t::l,h=>⟨h t Yr,Ty.mem_fws fun u hu=>h u (Yk _ hu)⟩
def Pa.ok (x:Pa):Prop:=Sn x.s/\x.t.fw
def Me.ok (x:Me):Prop:=Sn x.s/\Ok Pa.ok x.ps/\x.r.fw/\x.e.fw
def As.ok (x:As):Prop:=Sn x.s/\x.bs.length<=100000
def Pr.ok (x:Pr):Prop:=Sn x.s/\Ok As.ok x.as/\Ok Me.ok x.ms
def Fi.ok (x:Fi):Prop:=Sn x.s/\x.t.fw
def Ca.ok (x:Ca):Prop:=Sn x.s/\Ok Ty.fw x.ts
def No.ok (x:No):Prop:=Sn x.s/\x.gs.length<=100000/\Ok Fi.ok x.fs/\Ok Ca.ok x.cs
def Re.ok (x:Re):Prop:=Sn x.p/\x.t.fw/\x.o.fw
def Co.ok (x:Co):Prop:=Sn x.p/\x.t.fw/\x.gs.length<=100000/\Ok Re.ok x.rs/\Ok Ty.fw x.ts/\x.fs.length<=100000
def Fu.ok (x:Fu):Prop:=Sx x.s/\x.gs.length<=100000/\Ok Re.ok x.rs/\Ok Pa.ok x.ps/\x.r.fw/\x.e.fw
def As.eq_iff {x y:As}:x=y↔x.s=y.s/\x.bs=y.bs:=by cases x;cases y;simp
def Fi.eq_iff {x y:Fi}:x=y↔x.s=y.s/\x.t=y.t/\x.v=y.v:=by cases x;cases y;simp
def Ca.eq_iff {x y:Ca}:x=y↔x.s=y.s/\x.ts=y.ts/\x.i=y.i:=by cases x;cases y;simp
def Re.eq_iff {x y:Re}:x=y↔x.k=y.k/\x.t=y.t/\x.p=y.p/\x.o=y.o:=by cases x;cases y;simp
def ZE5 {α β:Type} {f:α->β} {p:α->α->Bool}: ∀{l m:List α},(∀x∈l,∀y∈m,p x y=dq (f x=f y))->all2 p l m=dq (l.map f=m.map f)
 | [],[],_=>(ZDz rfl).symm
 | x::l,y::m,h=>by
   rw [all2,h x Yr y Yr,ZE5 fun a ha b hb=>h a (Yk _ ha) b (Yk _ hb)]
   by_cases h1:f x=f y
   · rw [ZDz h1,Bool.true_and]
     by_cases h2:l.map f=m.map f
     · rw [ZDz h2,ZDz (by simp [h1,h2])]
     · rw [ZDy h2,ZDy (by simp [h2])]
   · rw [ZDy h1,Bool.false_and,ZDy (by simp [h1])]
 | [],_::_,_=>(ZDy Zs).symm
 | _::_,[],_=>(ZDy Zs).symm
def ZEm {α:Type} {p:α->α->Bool} {l m:List α} (h: ∀x∈l,∀y∈m,p x y=dq (x=y)):all2 p l m=dq (l=m):=by
 have:=ZE5 (f:=id) h
 simpa using this
def ZEp (H:HG S) {l m:List Ty} (hl:Ok Ty.fw l) (hm:Ok Ty.fw m) (hQ:Q [pb (dq (l=m))] []):Gives S Zd7 [.one (.l 4 (Ty.encs l)),.one (.l 4 (Ty.encs m))] [] Q:=by
 refine .code H.ifaceSameTypesq rfl ?_
 simp(disch:=omega)[Zj9]
 rw [Ty.encs_rows,Ty.encs_rows]
 refine ZEU H.slicesEqualFuncLApiTypeLApiTypeApiTypeApiType rfl hl.1 hm.1 (fun _ _=>rfl) (fun _ _=>rfl) Pass.nil (p:=fun x y=>dq (x=y)) (fun x hx y hy Q hQ=>ZEE H (hl.2 x hx) (hm.2 y hy) hQ) ?_
 rw [ZEm fun _ _ _ _=>rfl]
 simp(disch:=omega)
 exact hQ
def ZGQ (H:HG S) {x y:Fi} (hx:x.ok) (hy:y.ok) (hQ:Q [pb (dq (x=y))] []):Gives S ZhY [.agg (x.row.map .p),.agg (y.row.map .p)] [] Q:=by
 refine .code H.ifaceSameFieldsX1q rfl ?_
 simp(disch:=omega)[ZDN]
 by_cases e1:x.s=y.s
 ·by_cases e2:x.v=y.v
  ·simp(disch:=omega)[e1,e2]
   refine ZEE H hx.2 hy.2 ?_
   simp(disch:=omega)
   rwa [show (x=y)=(x.t=y.t) from by simp [Fi.eq_iff,e1,e2]] at hQ
  ·rw [ZDy (by simp [Fi.eq_iff,e2])] at hQ
   simp(disch:=omega)[e1,beq_false_of_ne e2]
   exact hQ
 ·rw [ZDy (by simp [Fi.eq_iff,e1])] at hQ
  simp(disch:=omega)[e1]
  exact hQ
def ZFT (H:HG S) {l m:List Fi} (hl:Ok Fi.ok l) (hm:Ok Fi.ok m) (hQ:Q [pb (dq (l=m))] []):Gives S ZfS [.one (.l 6 (l.map Fi.row)),.one (.l 6 (m.map Fi.row))] [] Q:=by
 refine .code H.ifaceSameFieldsq rfl ?_
 simp(disch:=omega)[Zjw]
 refine ZEU H.slicesEqualFuncLApiFieldLApiFieldApiFieldApiField rfl hl.1 hm.1 (fun _ _=>rfl) (fun _ _=>rfl) Pass.nil (p:=fun x y=>dq (x=y)) (fun x hx y hy Q hQ=>ZGQ H (hl.2 x hx) (hm.2 y hy) hQ) ?_
 rw [ZEm fun _ _ _ _=>rfl]
 simp(disch:=omega)
 exact hQ
def ZGT (H:HG S) {x y:Ca} (hx:x.ok) (hy:y.ok) (hQ:Q [pb (dq (x=y))] []):Gives S Ze8 [.agg (x.row.map .p),.agg (y.row.map .p)] [] Q:=by
 refine .code H.ifaceSameCasesX1q rfl ?_
 simp(disch:=omega)[ZiE]
 by_cases e1:x.s=y.s
 ·by_cases e2:x.i=y.i
  ·simp(disch:=omega)[e1,e2]
   refine ZEp H hx.2 hy.2 ?_
   simp(disch:=omega)
   rwa [show (x=y)=(x.ts=y.ts) from by simp [Ca.eq_iff,e1,e2]] at hQ
  ·rw [ZDy (by simp [Ca.eq_iff,e2])] at hQ
   simp(disch:=omega)[e1,beq_false_of_ne e2]
   exact hQ
 ·rw [ZDy (by simp [Ca.eq_iff,e1])] at hQ
  simp(disch:=omega)[e1]
  exact hQ
def ZFA (H:HG S) {l m:List Ca} (hl:Ok Ca.ok l) (hm:Ok Ca.ok m) (hQ:Q [pb (dq (l=m))] []):Gives S Zgp [.one (.l 3 (l.map Ca.row)),.one (.l 3 (m.map Ca.row))] [] Q:=by
 refine .code H.ifaceSameCasesq rfl ?_
 simp(disch:=omega)[Zkf]
 refine ZEU H.slicesEqualFuncLApiCaseLApiCaseApiCaseApiCase rfl hl.1 hm.1 (fun _ _=>rfl) (fun _ _=>rfl) Pass.nil (p:=fun x y=>dq (x=y)) (fun x hx y hy Q hQ=>ZGT H (hl.2 x hx) (hm.2 y hy) hQ) ?_
 rw [ZEm fun _ _ _ _=>rfl]
 simp(disch:=omega)
 exact hQ
def ZG0 (H:HG S) {x y:Re} (hx:x.ok) (hy:y.ok) (hQ:Q [pb (dq (x=y))] []):Gives S Zjv [.agg (x.row.map .p),.agg (y.row.map .p)] [] Q:=by
 refine .code H.ifaceSameReqsX1q rfl ?_
 simp(disch:=omega)[ZDR]
 by_cases e1:x.k=y.k
 ·by_cases e2:x.p=y.p
  ·simp(disch:=omega)[e1,e2]
   refine ZEE H hx.2.1 hy.2.1 ?_
   by_cases e3:x.t=y.t
   ·rw [ZDz e3]
    simp(disch:=omega)
    refine ZEE H hx.2.2 hy.2.2 ?_
    simp(disch:=omega)
    rwa [show (x=y)=(x.o=y.o) from by simp [Re.eq_iff,e1,e2,e3]] at hQ
   ·rw [ZDy e3]
    rw [ZDy (by simp [Re.eq_iff,e3])] at hQ
    simp(disch:=omega)
    exact hQ
  ·rw [ZDy (by simp [Re.eq_iff,e2])] at hQ
   simp(disch:=omega)[e1,e2]
   exact hQ
 ·rw [ZDy (by simp [Re.eq_iff,e1])] at hQ
  simp(disch:=omega)[e1]
  exact hQ
def ZE4 (H:HG S) {l m:List Re} (hl:Ok Re.ok l) (hm:Ok Re.ok m) (hQ:Q [pb (dq (l=m))] []):Gives S ZgK [.one (.l 10 (l.map Re.row)),.one (.l 10 (m.map Re.row))] [] Q:=by
 refine .code H.ifaceSameReqsq rfl ?_
 simp(disch:=omega)[ZlO]
 refine ZEU H.slicesEqualFuncLApiReqLApiReqApiReqApiReq rfl hl.1 hm.1 (fun _ _=>rfl) (fun _ _=>rfl) Pass.nil (p:=fun x y=>dq (x=y)) (fun x hx y hy Q hQ=>ZG0 H (hl.2 x hx) (hm.2 y hy) hQ) ?_
 rw [ZEm fun _ _ _ _=>rfl]
 simp(disch:=omega)
 exact hQ
def Pa.bare (x:Pa):Int×Ty:=(x.o,x.t)
def ZGL (H:HG S) {x y:Pa} (hx:x.ok) (hy:y.ok) (hQ:Q [pb (dq (x.bare=y.bare))] []):Gives S ZeK [.agg (x.row.map .p),.agg (y.row.map .p)] [] Q:=by
 refine .code H.ifaceSameParamsX1q rfl ?_
 simp(disch:=omega)[Zh6]
 by_cases e1:x.o=y.o
 ·simp(disch:=omega)[e1]
  refine ZEE H hx.2 hy.2 ?_
  simp(disch:=omega)
  rwa [show (x.bare=y.bare)=(x.t=y.t) from by simp [Pa.bare,e1]] at hQ
 ·rw [ZDy (by simp [Pa.bare,e1])] at hQ
  simp(disch:=omega)[e1]
  exact hQ
def ZE0 (H:HG S) {l m:List Pa} (hl:Ok Pa.ok l) (hm:Ok Pa.ok m) (hQ:Q [pb (dq (l.map Pa.bare=m.map Pa.bare))] []):Gives S Zdy [.one (.l 6 (l.map Pa.row)),.one (.l 6 (m.map Pa.row))] [] Q:=by
 refine .code H.ifaceSameParamsq rfl ?_
 simp(disch:=omega)[ZjL]
 refine ZEU H.slicesEqualFuncLApiParamLApiParamApiParamApiParam rfl hl.1 hm.1 (fun _ _=>rfl) (fun _ _=>rfl) Pass.nil (p:=fun x y=>dq (x.bare=y.bare)) (fun x hx y hy Q hQ=>ZGL H (hl.2 x hx) (hm.2 y hy) hQ) ?_
 rw [ZE5 fun _ _ _ _=>rfl]
 simp(disch:=omega)
 exact hQ
def ZGR (H:HG S) {x y:As} (hx:x.ok) (hy:y.ok) (hQ:Q [pb (dq (x=y))] []):Gives S Zh9 [.agg (x.row.map .p),.agg (y.row.map .p)] [] Q:=by
 refine .code H.ifaceSameAssocsX1q rfl ?_
 simp(disch:=omega)[ZDM]
 by_cases e1:x.s=y.s
 ·simp(disch:=omega)[e1]
  refine ZGw H hx.2 hy.2 ?_
  simp(disch:=omega)
  rwa [show (x=y)=(x.bs=y.bs) from by simp [As.eq_iff,e1]] at hQ
 ·rw [ZDy (by simp [As.eq_iff,e1])] at hQ
  simp(disch:=omega)[e1]
  exact hQ
def ZFP (H:HG S) {l m:List As} (hl:Ok As.ok l) (hm:Ok As.ok m) (hQ:Q [pb (dq (l=m))] []):Gives S ZfF [.one (.l 2 (l.map As.row)),.one (.l 2 (m.map As.row))] [] Q:=by
 refine .code H.ifaceSameAssocsq rfl ?_
 simp(disch:=omega)[ZjB]
 refine ZEU H.slicesEqualFuncLApiAssocLApiAssocApiAssocApiAssoc rfl hl.1 hm.1 (fun _ _=>rfl) (fun _ _=>rfl) Pass.nil (p:=fun x y=>dq (x=y)) (fun x hx y hy Q hQ=>ZGR H (hl.2 x hx) (hm.2 y hy) hQ) ?_
 rw [ZEm fun _ _ _ _=>rfl]
 simp(disch:=omega)
 exact hQ
def Me.bare (x:Me):LN×List (Int×Ty)×Ty×Ty:=(x.s,x.ps.map Pa.bare,x.r,x.e)
def ZGO (H:HG S) {x y:Me} (hx:x.ok) (hy:y.ok) (hQ:Q [pb (dq (x.bare=y.bare))] []):Gives S Zel [.agg (x.row.map .p),.agg (y.row.map .p)] [] Q:=by
 refine .code H.ifaceSameMethodsX1q rfl ?_
 simp(disch:=omega)[Zhs]
 by_cases e1:x.s=y.s
 ·simp(disch:=omega)[e1]
  refine ZE0 H hx.2.1 hy.2.1 ?_
  by_cases e2:x.ps.map Pa.bare=y.ps.map Pa.bare
  ·rw [ZDz e2]
   simp(disch:=omega)
   refine ZEE H hx.2.2.1 hy.2.2.1 ?_
   by_cases e3:x.r=y.r
   ·rw [ZDz e3]
    simp(disch:=omega)
    refine ZEE H hx.2.2.2 hy.2.2.2 ?_
    simp(disch:=omega)
    rwa [show (x.bare=y.bare)=(x.e=y.e) from by simp [Me.bare,e1,e2,e3]] at hQ
   ·rw [ZDy e3]
    rw [ZDy (by simp [Me.bare,e3])] at hQ
    simp(disch:=omega)
    exact hQ
  ·rw [ZDy e2]
   rw [ZDy (by simp [Me.bare,e2])] at hQ
   simp(disch:=omega)
   exact hQ
 ·rw [ZDy (by simp [Me.bare,e1])] at hQ
  simp(disch:=omega)[e1]
  exact hQ
def ZFN (H:HG S) {l m:List Me} (hl:Ok Me.ok l) (hm:Ok Me.ok m) (hQ:Q [pb (dq (l.map Me.bare=m.map Me.bare))] []):Gives S Zfb [.one (.l 10 (l.map Me.row)),.one (.l 10 (m.map Me.row))] [] Q:=by
 refine .code H.ifaceSameMethodsq rfl ?_
 simp(disch:=omega)[ZiU]
 refine ZEU H.slicesEqualFuncLApiMethodLApiMethodApiMethodApiMethod rfl hl.1 hm.1 (fun _ _=>rfl) (fun _ _=>rfl) Pass.nil (p:=fun x y=>dq (x.bare=y.bare)) (fun x hx y hy Q hQ=>ZGO H (hl.2 x hx) (hm.2 y hy) hQ) ?_
 rw [ZE5 fun _ _ _ _=>rfl]
 simp(disch:=omega)
 exact hQ
structure Mo where
 ns:List No
 ps:List Pr
 cs:List Co
 fs:List Fu
abbrev Mo.cs' (m:Mo):LC:=[.l 17 (m.ns.map No.row),.l 3 (m.ps.map Pr.row),.l 9 (m.cs.map Co.row),.l 22 (m.fs.map Fu.row)]
def Mo.ok (m:Mo):Prop:=Ok No.ok m.ns/\Ok Pr.ok m.ps/\Ok Co.ok m.cs/\Ok Fu.ok m.fs
abbrev Nd.zero:Nd:= .mk 0 [] 0 .zero [] [] 0
abbrev No.zero:No:=⟨[],0,[],false,false,[],[],.zero⟩
abbrev Pr.zero:Pr:=⟨[],[],[]⟩
abbrev Fu.zero:Fu:=⟨[],[],[],[],.zero,.zero,.zero⟩
def At {α:Type} (f:α->LN) (l:List α) (s:LN) (j:Nat):Prop:= ∃h:j<l.length,f l[j]=s/\ ∀x∈l.take j,f x≠s
def ZEj {α:Type} {p:α->Prop} {l:List α} {j:Nat} (hj:j<l.length) (h: ∀x∈l.take j,p x) (h':p l[j]): ∀x∈l.take (j+1),p x:=fun x hx=>by
 rw [Ym,Ya hj,Ys] at hx
 rcases hx with hx|hx
 ·exact h x hx
 ·simp at hx;rw [hx];exact h'
def Zng (H:HG S) {m:Mo} {s:LN} (hn:m.ns.length<=100000) (hQ0:(∀x∈m.ns,x.s≠s)->Q [.agg (No.zero.row.map .p),pi 0,pb false] []) (hQ1: ∀j:Nat,(h:At No.s m.ns s j)->Q [.agg ((m.ns[j]'h.1).row.map .p),pi j,pb true] []):
  Gives S ZbI [.agg m.cs',ps s] [] Q:=by
 refine .code H.tableNominal rfl ?_
 simp(disch:=omega)[Zc6]
 refine Lp.rule (fun (j:Nat)=>[(1,.a (ps s)),fR 4,(10,.a (.one (.l 17 (m.ns.map No.row)))),(11,.a (pi m.ns.length)),(12,.a (pi j)),o9,(10004,.a (.agg [.s [],.i 0,.tip 1 [],.p (.bool false),.p (.bool false),.tip 6 [],.tip 3 [],.i 0,.s [],.i 0,.i 0,.s [],.i 0,.tip 4 [],.tip 4 [],.tip 10 [],.i 0]))]) (fun j=>j<=m.ns.length/\ ∀x∈m.ns.take j,x.s≠s) (fun j=>m.ns.length-j) (a₀:=0) Zs ⟨Yd _,by simp⟩ ?_
 rintro j ⟨k1,k2⟩
 by_cases hj:j<m.ns.length
 ·by_cases hs:m.ns[j].s=s
  ·subst hs
   simp(disch:=omega)
   exact hQ1 j ⟨hj,rfl,k2⟩
  ·simp(disch:=omega)[hs]
   exact RdN.mk (j+1) rfl ⟨hj,ZEj hj k2 hs⟩ Zo
 ·simp(disch:=omega)
  rw [Yg Zo] at k2
  exact hQ0 k2
def ZDS (H:HG S) {m:Mo} {s:LN} (hn:m.ps.length<=100000) (hQ0:(∀x∈m.ps,x.s≠s)->Q [.agg (Pr.zero.row.map .p),pi 0,pb false] []) (hQ1: ∀j:Nat,(h:At Pr.s m.ps s j)->Q [.agg ((m.ps[j]'h.1).row.map .p),pi j,pb true] []):
  Gives S Zfr [.agg m.cs',ps s] [] Q:=by
 refine .code H.tableProtocol rfl ?_
 simp(disch:=omega)[ZlX]
 refine Lp.rule (fun (j:Nat)=>[(1,.a (ps s)),fR 4,(10,.a (.one (.l 3 (m.ps.map Pr.row)))),(11,.a (pi m.ps.length)),(12,.a (pi j)),o9,(10004,.a (.agg [.s [],.tip 2 [],.tip 10 []]))]) (fun j=>j<=m.ps.length/\ ∀x∈m.ps.take j,x.s≠s) (fun j=>m.ps.length-j) (a₀:=0) Zs ⟨Yd _,by simp⟩ ?_
 rintro j ⟨k1,k2⟩
 by_cases hj:j<m.ps.length
 ·by_cases hs:m.ps[j].s=s
  ·subst hs
   simp(disch:=omega)
   exact hQ1 j ⟨hj,rfl,k2⟩
  ·simp(disch:=omega)[hs]
   exact RdN.mk (j+1) rfl ⟨hj,ZEj hj k2 hs⟩ Zo
 ·simp(disch:=omega)
  rw [Yg Zo] at k2
  exact hQ0 k2
def ZE8 (H:HG S) {m:Mo} {s:LN} (hn:m.fs.length<=100000) (hQ0:(∀x∈m.fs,x.s≠s)->Q [.agg (Fu.zero.row.map .p),pi 0,pb false] []) (hQ1: ∀j:Nat,(h:At Fu.s m.fs s j)->Q [.agg ((m.fs[j]'h.1).row.map .p),pi j,pb true] []):
  Gives S Zmx [.agg m.cs',ps s] [] Q:=by
 refine .code H.tableFunc rfl ?_
 simp(disch:=omega)[Zrb]
 refine Lp.rule (fun (j:Nat)=>[(1,.a (ps s)),fR 4,(10,.a (.one (.l 22 (m.fs.map Fu.row)))),(11,.a (pi m.fs.length)),(12,.a (pi j)),o9,(10004,.a (aF0))]) (fun j=>j<=m.fs.length/\ ∀x∈m.fs.take j,x.s≠s) (fun j=>m.fs.length-j) (a₀:=0) Zs ⟨Yd _,by simp⟩ ?_
 rintro j ⟨k1,k2⟩
 by_cases hj:j<m.fs.length
 ·by_cases hs:m.fs[j].s=s
  ·subst hs
   simp(disch:=omega)
   exact hQ1 j ⟨hj,rfl,k2⟩
  ·simp(disch:=omega)[hs]
   exact RdN.mk (j+1) rfl ⟨hj,ZEj hj k2 hs⟩ Zo
 ·simp(disch:=omega)
  rw [Yg Zo] at k2
  exact hQ0 k2
def ZFs (H:HG S) {l:List LN} (hl:l.length<=100000) (hQ:Q [.one (.l 1 (strs l))] []):Gives S ZiO [.one (.l 1 (strs l))] [] Q:=by
 have g0:(strs l).length=l.length:=by simp [strs]
 refine .code H.tableStrings rfl ?_
 simp(disch:=omega)[ZmM]
 refine .code H.tableListStringq rfl ?_
 simp(disch:=omega)[Zjb]
 refine Lp.rule (fun (j:Nat)=>[(1,.a (.one (.clo ZlD [] []))),(5,.a (.one (.tip 1 ((strs l).take j)))),(9,.a (.one (.l 1 (strs l)))),(10,.a (pi l.length)),(11,.a (pi j)),o9]) (fun j=>j<=l.length) (fun j=>l.length-j) (a₀:=0) (by simp [g0]) (Yd _) ?_
 intro j k1
 by_cases hj:j<l.length
 ·have e:(strs l)[j]'(by omega)=[.str l[j]]:=by simp [strs]
  simp(disch:=omega)[e]
  refine .code H.tableStringsX1 rfl ?_
  simp(disch:=omega)[ZDW]
  exact RdN.mk (j+1) (by rw [Ym,Ya Zo,e];rfl) hj Zo
 ·simp(disch:=omega)
  rw [Yg Zo]
  exact hQ
def ZEP (H:HG S): ∀(n:Nat) (t:Ty) (Q:QF),t.sz<n->t.fw->Q [.agg t.cs] []->Gives S ZdC [.agg t.cs] [] Q
 | 0,_,_,h,_,_=>absurd h (YH _)
 | n+1,t,Q,hs,ht,hQ=>by
   refine .code H.tableType rfl ?_
   simp(disch:=omega)[Zq9]
   rw [Ty.encs_rows]
   refine ZFJ H.tableListApiTypeq rfl (Ty.fw_len ht) (fun _ _=>rfl) Pass.nil (g:=Ty.row) (fun _ _=>rfl) (fun x hx Q hQ=>?_) ?_
   · obtain ⟨j,hj,rfl⟩:=YD hx
     exact ZEP H n _ _ (by have:=Ty.szs_get hj;have:=Ty.sz_a (t:=t);omega) (Ty.fws_get (Ty.fw_a ht) hj) hQ
   · rw [<-Ty.encs_rows]
     simp(disch:=omega)
     exact hQ
def ZEd (H:HG S) {t:Ty} (ht:t.fw) (hQ:Q [.agg t.cs] []):Gives S ZdC [.agg t.cs] [] Q:=ZEP H (t.sz+1) t Q (Yz _) ht hQ
def ZFG (H:HG S) {l:List Ty} (hl:Ok Ty.fw l) (hQ:Q [.one (.l 4 (Ty.encs l))] []):Gives S ZkM [.one (.l 4 (Ty.encs l))] [] Q:=by
 refine .code H.tableTypes rfl ?_
 simp(disch:=omega)[Zpi]
 rw [Ty.encs_rows]
 refine ZFJ H.tableListApiTypeq rfl hl.1 (fun _ _=>rfl) Pass.nil (g:=Ty.row) (fun _ _=>rfl) (fun x hx Q hQ=>ZEd H (hl.2 x hx) hQ) ?_
 rw [<-Ty.encs_rows]
 simp(disch:=omega)
 exact hQ
def ZGm (H:HG S) {x:Re} (hx:x.ok) (hQ:Q [.agg (x.row.map .p)] []):Gives S Zob [.agg (x.row.map .p)] [] Q:=by
 refine .code H.tableReqsX1 rfl ?_
 simp(disch:=omega)[ZD9]
 refine ZEd H hx.2.1 ?_
 simp(disch:=omega)
 refine ZEd H hx.2.2 ?_
 simp(disch:=omega)
 exact hQ
def ZFE (H:HG S) {l:List Re} (hl:Ok Re.ok l) (hQ:Q [.one (.l 10 (l.map Re.row))] []):Gives S Zmm [.one (.l 10 (l.map Re.row))] [] Q:=by
 refine .code H.tableReqs rfl ?_
 simp(disch:=omega)[Zrx]
 refine ZFJ H.tableListApiReqq rfl hl.1 (fun _ _=>rfl) Pass.nil (g:=Re.row) (fun _ _=>rfl) (fun x hx Q hQ=>ZGm H (hl.2 x hx) hQ) ?_
 simp(disch:=omega)
 exact hQ
def ZGh (H:HG S) {x:Pa} (hx:x.ok) (hQ:Q [.agg (x.row.map .p)] []):Gives S ZgE [.agg (x.row.map .p)] [] Q:=by
 refine .code H.tableParamsX1q rfl ?_
 simp(disch:=omega)[Zlg]
 refine ZEd H hx.2 ?_
 simp(disch:=omega)
 exact hQ
def ZFB (H:HG S) {l:List Pa} (hl:Ok Pa.ok l) (hQ:Q [.one (.uniq 6 (l.map Pa.row))] []):Gives S Ziw [.one (.l 6 (l.map Pa.row))] [] Q:=by
 have g:=hl.1
 refine .code H.tableParamsq rfl ?_
 simp(disch:=omega)[ZlV]
 refine .code H.tableListApiParamq rfl ?_
 simp(disch:=omega)[Zhu]
 refine Lp.rule (fun (j:Nat)=>[(1,.a (.one (.clo ZgE [] []))),(5,.a (.one (.uniq 6 ((l.map Pa.row).take j)))),(9,.a (.one (.l 6 (l.map Pa.row)))),(10,.a (pi l.length)),(11,.a (pi j)),o9]) (fun j=>j<=l.length) (fun j=>l.length-j) (a₀:=0) Zs (Yd _) ?_
 intro j k1
 by_cases hj:j<l.length
 ·simp(disch:=omega)
  refine ZGh H (hl.get hj) ?_
  simp(disch:=omega)
  exact RdN.mk (j+1) (by simp [Ym,Ya hj]) hj Zo
 ·simp(disch:=omega)
  rw [Yg Ze]
  exact hQ
def Nd.encs_rows: ∀(l:List Nd),Nd.encs l=l.map Nd.row
 | []=>rfl
 | t::l=>by rw [Nd.encs,Nd.encs_rows l,Nd.enc_row];rfl
def Nd.fits_get: ∀{l:List Nd} {j:Nat} (_:Nd.fits l) (h:j<l.length),l[j].fit
 | t::l,0,hf,_=>hf.1
 | t::l,j+1,hf,h=>Nd.fits_get (l:=l) hf.2 (by simpa using h)
def Nd.szs_get: ∀{l:List Nd} {j:Nat} (h:j<l.length),l[j].sz<=Nd.szs l
 | t::l,0,_=>by simp [Nd.szs]
 | t::l,j+1,h=>by have:=Nd.szs_get (l:=l) (j:=j) (by simpa using h);simp [Nd.szs];omega
def Nd.sz_l {t:Nd}:Nd.szs t.l<t.sz:=by obtain ⟨_,_,_,⟨_,_,_,_⟩,_,_,_⟩:=t;simp [Nd.sz,Nd.l,Ty.sz];omega
def Nd.fit_inv {x:Nd} (h:x.fit):x.t.fw/\Ok Ty.fw x.ts/\x.l.length<=100000/\Nd.fits x.l:=by
 cases x;exact ⟨Ty.fit_fw _ h.2.1,⟨h.2.2.1,Ty.fws_mem (Ty.fits_fw _ h.2.2.2.1)⟩,h.2.2.2.2.1,h.2.2.2.2.2.1⟩
def ZEO (H:HG S): ∀(n:Nat) (x:Nd) (Q:QF),x.sz<n->x.fit->Q [.agg (x.row.map .p)] []->Gives S Zjk [.agg (x.row.map .p)] [] Q
 | 0,_,_,h,_,_=>absurd h (YH _)
 | n+1,x,Q,hs,hx,hQ=>by
   obtain ⟨h1,h2,h3,h4⟩:=Nd.fit_inv hx
   refine .code H.tableNode rfl ?_
   simp(disch:=omega)[Zq8]
   refine ZEd H h1 ?_
   simp(disch:=omega)
   refine ZFG H h2 ?_
   simp(disch:=omega)
   rw [Nd.encs_rows]
   refine ZFJ H.tableListApiNodeq rfl h3 (fun _ _=>rfl) Pass.nil (g:=Nd.row) (fun _ _=>rfl) (fun y hy Q hQ=>?_) ?_
   · obtain ⟨j,hj,rfl⟩:=YD hy
     exact ZEO H n _ _ (by have:=Nd.szs_get hj;have:=Nd.sz_l (t:=x);omega) (Nd.fits_get h4 hj) hQ
   · rw [<-Nd.encs_rows]
     simp(disch:=omega)
     exact hQ
def Fu.ok' (x:Fu):Prop:=x.ok/\x.b.fit
abbrev Fu.uniq (x:Fu):LC:=[.s x.s,.l 1 (strs x.gs),.l 10 (x.rs.map Re.row),.uniq 6 (x.ps.map Pa.row),.i x.r.k,.s x.r.s,.i x.r.n,.l 4 (Ty.encs x.r.a),.i x.e.k,.s x.e.s,.i x.e.n,.l 4 (Ty.encs x.e.a),.i x.b.op,.s x.b.s,.i x.b.n,.i x.b.t.k,.s x.b.t.s,.i x.b.t.n,.l 4 (Ty.encs x.b.t.a),.l 4 (Ty.encs x.b.ts),.l 10 (Nd.encs x.b.l),.i x.b.z]
def ZGi (H:HG S) {x:Fu} (hx:x.ok') (hQ:Q [.agg x.uniq] []):Gives S ZhE [.agg (x.row.map .p)] [] Q:=by
 obtain ⟨⟨_,h1,h2,h3,h4,h5⟩,h6⟩:=hx
 refine .code H.tableCopyFunc rfl ?_
 simp(disch:=omega)[Zlr]
 refine ZFs H h1 ?_
 simp(disch:=omega)
 refine ZFE H h2 ?_
 simp(disch:=omega)
 refine ZFB H h3 ?_
 simp(disch:=omega)
 refine ZEd H h4 ?_
 simp(disch:=omega)
 refine ZEd H h5 ?_
 simp(disch:=omega)
 refine ZEO H _ _ _ (Yz _) h6 ?_
 simp(disch:=omega)
 exact hQ
abbrev Ty.par (g:LN):Ty:= .mk 7 g 0 []
noncomputable def Ty.put (gs hs:List LN) (t:Ty):Ty:=t.sub gs (hs.map Ty.par)
noncomputable def Re.put (gs hs:List LN) (x:Re):Re:=⟨x.k,x.t.put gs hs,x.p,x.o.put gs hs⟩
noncomputable def Pa.put (gs hs:List LN) (x:Pa):Pa:=⟨x.s,x.o,x.t.put gs hs⟩
abbrev ren (gs hs:List LN):LC:=[.l 1 (strs gs),.p (.sl 4 (Ty.encs (hs.map Ty.par)))]
def ZEy (H:HG S) {gs hs:List LN} (hh:hs.length<=100000) (hQ:Q [.agg (ren gs hs)] []):Gives S ZeF [.one (.l 1 (strs gs)),.one (.l 1 (strs hs))] [] Q:=by
 have g0:(strs hs).length=hs.length:=by simp [strs]
 refine .code H.ifaceRenamingq rfl ?_
 simp(disch:=omega)[Zk5]
 refine Lp.rule (fun (j:Nat)=>[fR 4,fR 5,(10,.a (.one (.l 1 (strs hs)))),(11,.a (pi hs.length)),(12,.a (pi j)),o9,(10004,.a (.agg [.tip 1 [],.tip 4 []])),(10005,.a (.agg [.l 1 (strs gs),.tip 4 (Ty.encs ((hs.map Ty.par).take j))]))]) (fun j=>j<=hs.length) (fun j=>hs.length-j) (a₀:=0) (by simp [g0,Ty.encs_nil]) (Yd _) ?_
 intro j k1
 by_cases hj:j<hs.length
 ·have e:(strs hs)[j]'(by omega)=[.str hs[j]]:=by simp [strs]
  have gb:=Ty.encs_length (a:=(hs.map Ty.par).take j)
  rw [List.length_take,Yh] at gb
  simp(disch:=omega)[e]
  exact RdN.mk (j+1) (by simp [Ym,Ya hj,Ty.encs_snoc,Ty.row,Ty.k,Ty.s,Ty.n,Ty.a,Ty.encs_nil]) hj Zo
 ·simp(disch:=omega)
  rw [Yg Ze]
  exact hQ
def Ty.sub_fw {gs:List LN} {us:List Ty} (hu:Ty.fws us): ∀(n:Nat) (t:Ty),t.sz<n->t.fw->(t.sub gs us).fw
 | 0,_,h,_=>absurd h (YH _)
 | n+1,t,hs,ht=>by
   unfold Ty.sub
   cases hp:t.pick gs us with
   | some u=>
     rw [Ty.rep_some hp]
     unfold Ty.pick at hp
     split at hp
     · exact Ty.fws_mem hu _ (YA hp)
     · cases hp
   | none=>
     rw [Ty.rep_none hp]
     obtain ⟨k,s,m,a⟩:=t
     obtain ⟨h2,h3,h4⟩:=ht
     refine ⟨by simpa [Ty.a] using h2,fun h=>⟨(h3 h).1,by simp [Ty.a,(h3 h).2]⟩,Ty.mem_fws fun x hx=>?_⟩
     obtain ⟨y,hy,rfl⟩:=List.mem_map.1 hx
     obtain ⟨j,hj,rfl⟩:=YD hy
     exact Ty.sub_fw hu n _ (by have:=Ty.szs_get hj;simp [Ty.sz,Ty.a] at hs hj this⊢;omega) (Ty.fws_get h4 hj)
def Ty.par_fws {hs:List LN}:Ty.fws (hs.map Ty.par):=Ty.mem_fws fun t ht=>by
 obtain ⟨s,hs,rfl⟩:=List.mem_map.1 ht
 exact ⟨by simp,fun _=>⟨rfl,rfl⟩,trivial⟩
def Ty.put_fw {gs hs:List LN} {t:Ty} (ht:t.fw):(t.put gs hs).fw:=Ty.sub_fw Ty.par_fws _ t (Yz _) ht
def ZER (H:HG S) {gs hs:List LN} (hg:gs.length<=100000) (hh:hs.length<=100000) {t:Ty} (ht:t.fw) (hQ:Q [.agg (t.put gs hs).cs] []):Gives S Za7 [.agg (ren gs hs),.agg t.cs] [] Q:=by
 refine .code H.ifaceRenamerTypq rfl ?_
 simp(disch:=omega)[Zjp]
 refine ZG1 H hg (by rw [Yh];exact hh) Ty.par_fws ht ?_
 simp(disch:=omega)
 exact hQ
def ZF6 (H:HG S) {gs hs:List LN} (hg:gs.length<=100000) (hh:hs.length<=100000) {l:List Ty} (hl:Ok Ty.fw l) (hQ:Q [.one (.p (.sl 4 (Ty.encs (l.map (Ty.put gs hs)))))] []):Gives S Zfe [.agg (ren gs hs),.one (.l 4 (Ty.encs l))] [] Q:=by
 have ga:=Ty.encs_length (a:=l)
 have gl:=hl.1
 refine .code H.ifaceRenamerListq rfl ?_
 simp(disch:=omega)[ZiY]
 refine Lp.rule (fun (j:Nat)=>[fR 2,(5,.a (.one (.tip 4 (Ty.encs ((l.map (Ty.put gs hs)).take j))))),(9,.a (.one (.l 4 (Ty.encs l)))),(10,.a (pi l.length)),(11,.a (pi j)),o9,(10002,.a (.agg (ren gs hs)))]) (fun j=>j<=l.length) (fun j=>l.length-j) (a₀:=0) (by simp [ga,Ty.encs_nil]) (Yd _) ?_
 intro j k1
 by_cases hj:j<l.length
 ·have e:=Ty.encs_get (l:=l) (j:=j) Zo
  have gb:=Ty.encs_length (a:=(l.map (Ty.put gs hs)).take j)
  rw [List.length_take,Yh] at gb
  simp(disch:=omega)[e]
  refine ZER H hg hh (hl.get hj) ?_
  simp(disch:=omega)
  exact RdN.mk (j+1) (by simp [Ym,Ya hj,Ty.encs_snoc]) hj Zo
 ·simp(disch:=omega)
  rw [Yg Ze]
  exact hQ
def ZF7 (H:HG S) {gs hs:List LN} (hg:gs.length<=100000) (hh:hs.length<=100000) {l:List Re} (hl:Ok Re.ok l) (hQ:Q [.one (.p (.sl 10 ((l.map (Re.put gs hs)).map Re.row)))] []):Gives S Zfc [.agg (ren gs hs),.one (.l 10 (l.map Re.row))] [] Q:=by
 have gl:=hl.1
 refine .code H.ifaceRenamerReqsq rfl ?_
 simp(disch:=omega)[ZiV]
 refine Lp.rule (fun (j:Nat)=>[fR 2,(5,.a (.one (.tip 10 (((l.map (Re.put gs hs)).map Re.row).take j)))),(8,.a (.one (.l 10 (l.map Re.row)))),(9,.a (pi l.length)),(10,.a (pi j)),o9,(10002,.a (.agg (ren gs hs)))]) (fun j=>j<=l.length) (fun j=>l.length-j) (a₀:=0) Zs (Yd _) ?_
 intro j k1
 by_cases hj:j<l.length
 ·simp(disch:=omega)
  refine ZER H hg hh (hl.get hj).2.1 ?_
  simp(disch:=omega)
  refine ZER H hg hh (hl.get hj).2.2 ?_
  simp(disch:=omega)
  exact RdN.mk (j+1) (by simp [Ym,Ya hj,Re.put]) hj Zo
 ·simp(disch:=omega)
  rw [Yg Ze]
  simpa using hQ
noncomputable def Fu.put (hs:List LN) (x:Fu):Fu:=⟨x.s,hs,x.rs.map (Re.put x.gs hs),x.ps.map (Pa.put x.gs hs),x.r.put x.gs hs,x.e.put x.gs hs,x.b⟩
def ZFF (H:HG S) {x:Fu} (hx:x.ok') {hs:List LN} (hh:hs.length<=100000) (hl:hs.length=x.gs.length) (hQ:Q [.agg ((x.put hs).row.map .p)] []):Gives S Ziy [.agg (x.row.map .p),.one (.l 1 (strs hs))] [] Q:=by
 have hx':=hx
 obtain ⟨⟨_,h1,h2,h3,h4,h5⟩,h6⟩:=hx'
 have g0:(strs hs).length=hs.length:=by simp [strs]
 have g1:(strs x.gs).length=x.gs.length:=by simp [strs]
 have g3:=h3.1
 refine .code H.ifaceRenamed rfl ?_
 simp(disch:=omega)[ZmP]
 refine ZGi H hx ?_
 simp(disch:=omega)[g0,g1,hl]
 refine ZEy H Zo ?_
 simp(disch:=omega)
 have gl: ∀j,j<=x.ps.length->((x.ps.map (Pa.put x.gs hs)).take j++x.ps.drop j).length=x.ps.length:=fun j hj=>by simp;omega
 have gw: ∀l:List Pa,Wid 6 (l.map Pa.row):=fun l r hr=>by obtain ⟨y,_,rfl⟩:=List.mem_map.1 hr;rfl
 refine Lp.rule (fun (j:Nat)=>[(1,.a (.one (.l 1 (strs hs)))),fR 2,fR 4,fR 5,(22,.a (pi x.ps.length)),(23,.a (pi j)),o9,
   (10002,.a (.agg (Fu.uniq ⟨x.s,x.gs,x.rs,(x.ps.map (Pa.put x.gs hs)).take j++x.ps.drop j,x.r,x.e,x.b⟩))),(10004,.a (aF0)),(10005,.a (.agg (ren x.gs hs)))])
   (fun j=>j<=x.ps.length) (fun j=>x.ps.length-j) (a₀:=0) Zs (Yd _) ?_
 intro j k1
 by_cases hj:j<x.ps.length
 ·generalize hz:(x.ps.map (Pa.put x.gs hs)).take j++x.ps.drop j=z
  have gz:=gl j k1
  rw [hz] at gz
  have gy:z[j]'(by omega)=x.ps[j]:=by
    have h0:z[j]? =some x.ps[j]:=by
     rw [<-hz,Yo (by rw [List.length_take];omega),List.length_take,Yh,Nat.min_eq_left Zo,Nat.sub_self,List.getElem?_drop,Nat.add_zero,Ya hj]
    rw [Ya Zo] at h0
    exact Option.some.inj h0
  have gf:(ZD7 (z.map Pa.row)).length=x.ps.length*6:=by rw [ZD7,Yh,(gw z).flat,Yh,gz]
  have gc:List.take 4 (List.drop (j*6+2) (ZD7 (z.map Pa.row)))=(x.ps[j].t).cs:=by
    have:=ZGa (gw z) (j:=j) (o:=2) (n:=4) (by rw [Yh];omega) Zo
    rw [cut,if_pos Zo] at this
    simpa [gy] using this
  have hm:(j+1)*6<=x.ps.length*6:=YI _ hj
  have gz2:(z.map Pa.row).length=x.ps.length:=by rw [Yh,gz]
  simp(disch:=omega)[Fu.uniq,ZGy,ZEl,ZEs,gz,gy,gc]
  refine ZER H h1 hh (h3.get hj).2 ?_
  have gp:List.take (j*6+2) (ZD7 (z.map Pa.row))++C.p (.i (x.ps[j].t.put x.gs hs).k)::C.p (.str (x.ps[j].t.put x.gs hs).s)::C.p (.i (x.ps[j].t.put x.gs hs).n)::C.p (.sl 4 (Ty.encs (x.ps[j].t.put x.gs hs).a))::List.drop (j*6+2+4) (ZD7 (z.map Pa.row))=ZD7 ((z.map Pa.row).set j (x.ps[j].put x.gs hs).row):=by
    have:=ZFq (gw z) (j:=j) (o:=2) (xs:=(x.ps[j].t.put x.gs hs).row) (by rw [Yh];omega) Zs
    rw [put,if_pos Ze] at this
    simp only [Ye] at this
    simpa [gy,Pa.put] using this
  have gs:(z.set j (x.ps[j].put x.gs hs))=(x.ps.map (Pa.put x.gs hs)).take (j+1)++x.ps.drop (j+1):=by
    rw [<-hz,List.set_append_right _ _ (by rw [List.length_take];omega),List.length_take,Yh,Nat.min_eq_left Zo,Nat.sub_self,List.drop_eq_getElem_cons hj,List.set_cons_zero,Ym,Yn,Ya hj]
    simp
  have gq:=gw (z.set j (x.ps[j].put x.gs hs))
  rw [List.map_set] at gq
  have gr:((z.map Pa.row).set j (x.ps[j].put x.gs hs).row).length=x.ps.length:=by rw [List.length_set,gz2]
  simp (disch:=first|omega|exact gq) [Fu.uniq,ZEl,ZEs,gz,gy,gp,ZGC]
  have gt:=congrArg (List.map Pa.row) gs
  rw [List.map_set,YB,List.map_take,YK,List.map_drop] at gt
  exact RdN.mk (j+1) (by rw [gt];rfl) hj Zo
 ·have e0:(x.ps.map (Pa.put x.gs hs)).take j++x.ps.drop j=x.ps.map (Pa.put x.gs hs):=by
    rw [Yg (by rw [Yh];omega),List.drop_of_length_le Zo,List.append_nil]
  simp only [e0]
  simp(disch:=omega)[ZGs,Fu.uniq]
  refine ZF7 H h1 hh h2 ?_
  simp(disch:=omega)
  refine ZER H h1 hh h4 ?_
  simp(disch:=omega)
  refine ZER H h1 hh h5 ?_
  simp(disch:=omega)
  refine H.clone hs (by have:=hh;omega) ?_
  rw [show (hs.map fun x=>[P.str x])=strs hs from rfl]
  simp(disch:=omega)[ZGs]
  simpa [Fu.put] using hQ
def bse (s:LN):LN:=s.takeWhile (· !=47)
def ZFO (H:HG S) {x:Fu} (hs:x.s.length<=300000) (hQ:Q [ps (bse x.s),pb (ZFI x.s)] []):Gives S ZeH [.agg (x.row.map .p)] [] Q:=by
 refine .code H.ifaceBaseq rfl ?_
 simp(disch:=omega)[ZpU]
 refine H.cut _ hs fun c=>?_
 simp(disch:=omega)
 simpa [bse] using hQ
def Fu.ent (f g:Fu):Prop:=bse f.s=bse g.s/\ZFI f.s=ZFI g.s/\f.gs.length=g.gs.length/\f.rs=g.rs.map (Re.put g.gs f.gs)/\f.ps.map Pa.bare=(g.ps.map (Pa.put g.gs f.gs)).map Pa.bare/\f.r=g.r.put g.gs f.gs/\f.e=g.e.put g.gs f.gs
def Nd.zero_fit:Nd.zero.fit:=⟨⟨by simp,by simp [Byt]⟩,⟨⟨by simp,by simp [Byt]⟩,by simp,by simp,trivial⟩,by simp,trivial,by simp,trivial,by simp,by simp,by simp [Ty.nm],⟨by simp,trivial⟩,trivial,fun _=>ZIk⟩
def Fu.okn (x:Fu):Prop:=x.ok/\Sns x.gs
def Ok.map {α β:Type} {p:α->Prop} {q:β->Prop} {f:α->β} {l:List α} (h:Ok p l) (hf: ∀x,p x->q (f x)):Ok q (l.map f):=⟨by rw [Yh];exact h.1,fun y hy=>by
 obtain ⟨x,hx,rfl⟩:=List.mem_map.1 hy;exact hf x (h.2 x hx)⟩
def Re.put_ok {gs hs:List LN} (x:Re) (hx:x.ok):(x.put gs hs).ok:=⟨hx.1,Ty.put_fw hx.2.1,Ty.put_fw hx.2.2⟩
def Pa.put_ok {gs hs:List LN} (x:Pa) (hx:x.ok):(x.put gs hs).ok:=⟨hx.1,Ty.put_fw hx.2⟩
def ZE6 (H:HG S) {f g:Fu} (hf:f.okn) (hg:g.okn) (hQ:Q [pb (dq (f.ent g))] []):Gives S Zgq [.agg (f.row.map .p),.agg (g.row.map .p)] [] Q:=by
 obtain ⟨⟨f1,f2,f3,f4,f5,f6⟩,f7⟩:=hf
 obtain ⟨⟨g1,g2,g3,g4,g5,g6⟩,g7⟩:=hg
 have f1':=f1.1
 have g1':=g1.1
 have gf:(strs f.gs).length=f.gs.length:=by simp [strs]
 have gg:(strs g.gs).length=g.gs.length:=by simp [strs]
 refine .code H.ifaceSameEntryq rfl ?_
 simp(disch:=omega)[Zkb]
 refine ZFO H Zo ?_
 simp(disch:=omega)
 refine ZFO H Zo ?_
 simp(disch:=omega)
 by_cases e1:bse f.s=bse g.s
 ·by_cases e2:ZFI f.s=ZFI g.s
  ·by_cases e3:f.gs.length=g.gs.length
   ·simp(disch:=omega)[e1,e2,gf,gg,e3]
    refine ZFF H (x:=⟨[],g.gs,g.rs,g.ps,g.r,g.e,.zero⟩) ⟨⟨⟨by simp,by simp [Byt]⟩,g2,g3,g4,g5,g6⟩,Nd.zero_fit⟩ f7.1 e3 ?_
    have y1:Ok Re.ok (g.rs.map (Re.put g.gs f.gs)):=g3.map (Re.put_ok)
    have y2:Ok Pa.ok (g.ps.map (Pa.put g.gs f.gs)):=g4.map (Pa.put_ok)
    have y3:=Ty.put_fw (gs:=g.gs) (hs:=f.gs) g5
    have y4:=Ty.put_fw (gs:=g.gs) (hs:=f.gs) g6
    have he:(f.ent g)=(f.rs=g.rs.map (Re.put g.gs f.gs)/\f.ps.map Pa.bare=(g.ps.map (Pa.put g.gs f.gs)).map Pa.bare/\f.r=g.r.put g.gs f.gs/\f.e=g.e.put g.gs f.gs):=by simp only [Fu.ent,e1,e2,e3,true_and]
    rw [he] at hQ
    have hy:(⟨[],f.gs,g.rs.map (Re.put g.gs f.gs),g.ps.map (Pa.put g.gs f.gs),g.r.put g.gs f.gs,g.e.put g.gs f.gs,.zero⟩:Fu)=Fu.put f.gs ⟨[],g.gs,g.rs,g.ps,g.r,g.e,.zero⟩:=rfl
    rw [<-hy]
    generalize g.rs.map (Re.put g.gs f.gs)=yrs at*
    generalize g.ps.map (Pa.put g.gs f.gs)=yps at*
    generalize g.r.put g.gs f.gs=yr at*
    generalize g.e.put g.gs f.gs=ye at*
    simp(disch:=omega)
    refine ZE4 H f3 y1 ?_
    by_cases d1:f.rs=yrs
    ·rw [ZDz d1]
     simp(disch:=omega)
     refine ZE0 H f4 y2 ?_
     by_cases d2:f.ps.map Pa.bare=yps.map Pa.bare
     ·rw [ZDz d2]
      simp(disch:=omega)
      refine ZEE H f5 y3 ?_
      by_cases d3:f.r=yr
      ·rw [ZDz d3]
       simp(disch:=omega)
       refine ZEE H f6 y4 ?_
       simp(disch:=omega)
       simpa [d1,d2,d3] using hQ
      ·rw [ZDy d3]
       rw [ZDy (by simp [d3])] at hQ
       simp(disch:=omega)
       exact hQ
     ·rw [ZDy d2]
      rw [ZDy (by simp [d2])] at hQ
      simp(disch:=omega)
      exact hQ
    ·rw [ZDy d1]
     rw [ZDy (by simp [d1])] at hQ
     simp(disch:=omega)
     exact hQ
   ·rw [ZDy (by simp [Fu.ent,e3])] at hQ
    simp(disch:=omega)[e1,e2,gf,gg,e3]
    exact hQ
  ·rw [ZDy (by simp only [Fu.ent,e2,false_and,and_false,not_false_eq_true])] at hQ
   have e2':(ZFI f.s !=ZFI g.s)=true:=by simpa using e2
   simp(disch:=omega)[e1,e2']
   exact hQ
 ·rw [ZDy (by simp [Fu.ent,e1])] at hQ
  simp(disch:=omega)[e1]
  exact hQ
def ZF1 (H:HG S) {m:Mo} {f:Fu} (hm:Ok Fu.okn m.fs) (hf:f.okn) (hQ0:(∀g∈m.fs,¬f.ent g)->Q [ps [],pb false] []) (hQ1: ∀j:Nat,(h:j<m.fs.length)->f.ent m.fs[j]->(∀g∈m.fs.take j,¬f.ent g)->Q [ps m.fs[j].s,pb true] []):
  Gives S Zh1 [.agg m.cs',.agg (f.row.map .p)] [] Q:=by
 have g0:=hm.1
 refine .code H.ifaceEntry rfl ?_
 simp(disch:=omega)[ZpY]
 refine Lp.rule (fun (j:Nat)=>[fR 3,(9,.a (.one (.l 22 (m.fs.map Fu.row)))),(10,.a (pi m.fs.length)),(11,.a (pi j)),o9,(10003,.a (.agg (f.row.map .p)))]) (fun j=>j<=m.fs.length/\ ∀g∈m.fs.take j,¬f.ent g) (fun j=>m.fs.length-j) (a₀:=0) Zs ⟨Yd _,by simp⟩ ?_
 rintro j ⟨k1,k2⟩
 by_cases hj:j<m.fs.length
 ·simp(disch:=omega)
  refine ZE6 H hf (hm.get hj) ?_
  by_cases e:f.ent m.fs[j]
  ·rw [ZDz e]
   simp(disch:=omega)
   exact hQ1 j hj e k2
  ·rw [ZDy e]
   simp(disch:=omega)
   exact RdN.mk (j+1) rfl ⟨hj,ZEj hj k2 e⟩ Zo
 ·simp(disch:=omega)
  rw [Yg Zo] at k2
  exact hQ0 k2
def Co.nm (x:Co):LN:=x.t.s++[58]++x.p
def Co.oks (x:Co):Prop:=x.ok/\x.t.s.length<=8000
def ZEA (H:HG S) {x:Co} (hx:x.oks) {os:List LC} (ho:Pass os) (hQ:Q [ps x.nm] os):Gives S ZgS [.agg (x.row.map .p)] os Q:=by
 have h1:=hx.1.1.1
 have h2:=hx.2
 have h3:x.t.s.length+1<68719476736:=by omega
 have h4:(x.t.s++[58]).length+x.p.length<68719476736:=by simp;omega
 have hc:=fun κ=>ho.ment (κ:=κ)
 refine .code H.ifaceConfNameq rfl ?_
 simp(disch:=omega)[ZDX,h3,h4,ho.fin,hc]
 simpa [Co.nm] using hQ
def ZDT (H:HG S) {x:Co} (hx:x.oks) (hQ:Q [ps x.nm] []):Gives S ZgS [.agg (x.row.map .p)] [] Q:=ZEA H hx Pass.nil hQ
abbrev Co.zero:Co:=⟨[],.zero,[],[],[],[]⟩
def ZFy (H:HG S) {m:Mo} {s:LN} (hm:Ok Co.oks m.cs) (hQ0:(∀x∈m.cs,x.nm≠s)->Q [.agg (Co.zero.row.map .p),pb false] []) (hQ1: ∀j:Nat,(h:At Co.nm m.cs s j)->Q [.agg ((m.cs[j]'h.1).row.map .p),pb true] []):
  Gives S ZwS [.agg m.cs',ps s] [] Q:=by
 have g0:=hm.1
 refine .code H.ifaceConfq rfl ?_
 simp(disch:=omega)[ZEe,cloR]
 refine ZFW H.slicesIndexFuncLApiConfApiConf hm.1 (fun _ _=>rfl) (os:=[[.s s]]) (p:=fun x=>dq (x.nm=s)) ⟨rfl,rfl,by simp [C.clean]⟩ PassR.nil (by simp [PassR]) (fun x hx Q hQ=>?_) (fun h=>?_) (fun j hj h h'=>?_)
 ·simp [ZDB]
  refine .code H.ifaceConfX1q rfl ?_
  simp(disch:=omega)[ZD5]
  refine ZDT H (hm.2 x hx) ?_
  by_cases e:x.nm=s
  ·simp(disch:=omega)[e]
   simpa [ZDz e] using hQ
  ·simp(disch:=omega)[e]
   simpa [ZDy e] using hQ
 ·simp(disch:=omega)
  exact hQ0 (fun x hx=>ZEg.1 (h x hx))
 ·simp(disch:=omega)
  exact hQ1 j ⟨hj,ZD3.1 h,fun x hx=>ZEg.1 (h' x hx)⟩
def Co.okn (x:Co):Prop:=x.oks/\Sns x.gs
def Co.sim (c d:Co):Prop:=c.gs.length=d.gs.length/\c.rs=d.rs.map (Re.put d.gs c.gs)/\c.ts=d.ts.map (Ty.put d.gs c.gs)/\c.fs=d.fs
def ZFk (H:HG S) {c d:Co} (hc:c.okn) (hd:d.okn) (hQ:Q [pb (dq (c.sim d))] []):Gives S Zs1 [.agg (c.row.map .p),.agg (d.row.map .p)] [] Q:=by
 obtain ⟨⟨⟨c1,c2,c3,c4,c5,c6⟩,_⟩,c8⟩:=hc
 obtain ⟨⟨⟨d1,d2,d3,d4,d5,d6⟩,_⟩,d8⟩:=hd
 have gf:(strs c.gs).length=c.gs.length:=by simp [strs]
 have gg:(strs d.gs).length=d.gs.length:=by simp [strs]
 refine .code H.ifaceSameConfq rfl ?_
 simp(disch:=omega)[ZDZ]
 by_cases e1:c.gs.length=d.gs.length
 ·simp(disch:=omega)[gf,gg,e1]
  refine ZEy H c3 ?_
  simp(disch:=omega)
  refine ZF7 H d3 c8.1 d4 ?_
  have y1:Ok Re.ok (d.rs.map (Re.put d.gs c.gs)):=d4.map Re.put_ok
  have y2:Ok Ty.fw (d.ts.map (Ty.put d.gs c.gs)):=d5.map fun t ht=>Ty.put_fw ht
  have he:c.sim d=(c.rs=d.rs.map (Re.put d.gs c.gs)/\c.ts=d.ts.map (Ty.put d.gs c.gs)/\c.fs=d.fs):=by simp only [Co.sim,e1,true_and]
  rw [he] at hQ
  generalize d.rs.map (Re.put d.gs c.gs)=yrs at*
  simp(disch:=omega)
  refine ZE4 H c4 y1 ?_
  by_cases e2:c.rs=yrs
  ·rw [ZDz e2]
   simp(disch:=omega)
   refine ZF6 H d3 c8.1 d5 ?_
   generalize d.ts.map (Ty.put d.gs c.gs)=yts at*
   simp(disch:=omega)
   refine ZEp H c5 y2 ?_
   by_cases e3:c.ts=yts
   ·rw [ZDz e3]
    simp(disch:=omega)
    refine ZGw H c6 d6 ?_
    simp(disch:=omega)
    simpa [e2,e3] using hQ
   ·rw [ZDy e3]
    rw [ZDy (by simp [e3])] at hQ
    simp(disch:=omega)
    exact hQ
  ·rw [ZDy e2]
   rw [ZDy (by simp [e2])] at hQ
   simp(disch:=omega)
   exact hQ
 ·rw [ZDy (by simp [Co.sim,e1])] at hQ
  simp(disch:=omega)[gf,gg,e1]
  exact hQ
def Mo.isFree (m:Mo) (i:Nat):Prop:= ∃h:i<m.fs.length,At Fu.s m.fs m.fs[i].s i/\ ∀c∈m.cs,m.fs[i].s∉c.fs
noncomputable def Mo.freeTo (m:Mo) (n:Nat):List Fu:=(List.range n).filterMap fun i=>if dq (m.isFree i) then m.fs[i]? else none
noncomputable def Mo.free (m:Mo):List Fu:=m.freeTo m.fs.length
def Mo.free_mem {m:Mo} {f:Fu} (h:f∈m.free): ∃(i:Nat) (h:i<m.fs.length),m.isFree i/\m.fs[i]=f:=by
 obtain ⟨i,hi,h⟩:=List.mem_filterMap.1 h
 split at h
 ·rename_i hf
  have hi:=List.mem_range.1 hi
  rw [Ya hi] at h
  exact ⟨i,hi,ZD3.1 hf,Option.some.inj h⟩
 ·cases h
def Mo.freeTo_len {m:Mo} {n:Nat}:(m.freeTo n).length<=n:=by
 have:=List.length_filterMap_le (fun i=>if dq (m.isFree i) then m.fs[i]? else none) (List.range n)
 rwa [List.length_range] at this
def Mo.freeTo_yes {m:Mo} {j:Nat} (hj:j<m.fs.length) (h:m.isFree j):m.freeTo (j+1)=m.freeTo j++[m.fs[j]]:=by
 simp [Mo.freeTo,List.range_succ,ZDz h,Ya hj]
def Mo.freeTo_no {m:Mo} {j:Nat} (h: ¬m.isFree j):m.freeTo (j+1)=m.freeTo j:=by
 simp [Mo.freeTo,List.range_succ,ZDy h]
def At.uniq {α:Type} {f:α->LN} {l:List α} {s:LN} {i j:Nat} (h:At f l s i) (h':At f l s j):i=j:=by
 obtain ⟨a1,a2,a3⟩:=h
 obtain ⟨b1,b2,b3⟩:=h'
 rcases Nat.lt_trichotomy i j with h|h|h
 ·exact absurd a2 (b3 _ (List.mem_take_iff_getElem.2 ⟨i,by omega,rfl⟩))
 ·exact h
 ·exact absurd b2 (a3 _ (List.mem_take_iff_getElem.2 ⟨j,by omega,rfl⟩))
def ZGu (H:HG S) {m:Mo} (hm:m.fs.length<=100000) (hc:Ok Co.ok m.cs) (hQ:Q [.one (.l 22 (m.free.map Fu.row))] []):Gives S Zid [.agg m.cs'] [] Q:=by
 refine .code H.ifaceFreeq rfl ?_
 simp(disch:=omega)[Zp2]
 refine Lp.rule (fun (j:Nat)=>[fR 1,(3,.a (.one (.tip 22 ((m.freeTo j).map Fu.row)))),(10,.a (.one (.l 22 (m.fs.map Fu.row)))),(11,.a (pi m.fs.length)),(12,.a (pi j)),o9,(10001,.a (.agg m.cs'))]) (fun j=>j<=m.fs.length) (fun j=>m.fs.length-j) (a₀:=0) (by simp [Mo.freeTo]) (Yd _) ?_
 intro j k1
 by_cases hj:j<m.fs.length
 ·have fl:=Mo.freeTo_len (m:=m) (n:=j)
  simp(disch:=omega)
  refine ZE8 H hm (fun h=>absurd rfl (h _ (Yl hj))) (fun i hi=>?_)
  by_cases hij:i=j
  ·subst hij
   simp(disch:=omega)[cloR]
   refine ZFa H.slicesContainsFuncLApiConfApiConf H.slicesIndexFuncLApiConfApiConf hc.1 (fun _ _=>rfl) (os:=[(m.fs[i].row.map .p)]) (p:=fun c=>dq (m.fs[i].s∈c.fs)) (Pass.dat rfl) PassR.nil (by simp [PassR]) (fun c hcm Q hQ=>?_) ?_
   ·simp [ZDB]
    refine .code H.ifaceFreeX1q rfl ?_
    simp(disch:=omega)[ZD6]
    refine ZGG H (hc.2 c hcm).2.2.2.2.2 ?_
    simp(disch:=omega)
    exact hQ
   ·by_cases hf:m.cs.any (fun c=>dq (m.fs[i].s∈c.fs))=true
    ·have hn: ¬m.isFree i:=fun ⟨_,_,h3⟩=>by
      obtain ⟨c,h4,h5⟩:=List.any_eq_true.1 hf
      exact h3 c h4 (ZD3.1 h5)
     rw [hf]
     simp(disch:=omega)
     exact RdN.mk (i+1) (by rw [Mo.freeTo_no hn];rfl) hj Zo
    ·have hn:m.isFree i:=⟨hj,hi,fun c h4 h5=>hf (List.any_eq_true.2 ⟨c,h4,ZDz h5⟩)⟩
     rw [Bool.not_eq_true] at hf
     rw [hf]
     simp(disch:=omega)
     exact RdN.mk (i+1) (by rw [Mo.freeTo_yes hj hn];simp) hj Zo
  ·have hf: ¬m.isFree j:=fun ⟨_,h,_⟩=>hij (hi.uniq h)
   simp(disch:=omega)[hij]
   exact RdN.mk (j+1) (by rw [Mo.freeTo_no hf];rfl) hj Zo
 ·simp(disch:=omega)
  rw [show j=m.fs.length by omega]
  exact hQ
def ZEH (H:HG S) {m:Mo} {s:LN} (hm:Ok Pr.ok m.ps) (hQ:Q [pb (m.ps.any fun p=>p.ms.any fun f=>dq (f.s=s))] []):Gives S Zec [.agg m.cs',ps s] [] Q:=by
 refine .code H.ifaceHasMethodq rfl ?_
 simp(disch:=omega)[Zkd,cloR]
 refine ZFa H.slicesContainsFuncLApiProtocolApiProtocol H.slicesIndexFuncLApiProtocolApiProtocol hm.1 (fun _ _=>rfl) (os:=[[.s s]]) (p:=fun p=>p.ms.any fun f=>dq (f.s=s)) (Pass.dat rfl) PassR.nil (by simp [PassR]) (fun p hp Q hQ=>?_) ?_
 ·simp [ZDB]
  refine .code H.ifaceHasMethodX1q rfl ?_
  simp(disch:=omega)[ZiP,cloR]
  refine ZFa H.slicesContainsFuncLApiMethodApiMethod H.slicesIndexFuncLApiMethodApiMethod (hm.2 p hp).2.2.1 (fun _ _=>rfl) (os:=[[.s s]]) (p:=fun f=>dq (f.s=s)) (Pass.dat rfl) PassR.nil (by simp [PassR]) (fun f hf Q hQ=>?_) ?_
  ·simp [ZDB]
   refine .code H.ifaceHasMethodX1X1q rfl ?_
   simp(disch:=omega)[Zhq]
   by_cases e:f.s=s
   ·rw [ZDz e] at hQ
    simp(disch:=omega)[e]
    exact hQ
   ·rw [ZDy e] at hQ
    simp(disch:=omega)[e]
    exact hQ
  ·simp(disch:=omega)
   exact hQ
 ·simp(disch:=omega)
  exact hQ
noncomputable def No.has (x:No) (s:LN):Bool:=dq (x.k≠2) && x.fs.any fun f=>dq (f.s=s)
def ZEM (H:HG S) {x:No} {s:LN} (hx:x.ok) (hQ:Q [pb (x.has s)] []):Gives S ZgM [.agg (x.row.map .p),ps s] [] Q:=by
 refine .code H.ifaceHasFieldq rfl ?_
 simp(disch:=omega)[Zlm,cloR]
 by_cases hk:x.k=2
 ·rw [show x.has s=false from by simp [No.has,hk,ZDy]] at hQ
  simp(disch:=omega)[hk]
  exact hQ
 ·rw [show x.has s=x.fs.any fun f=>dq (f.s=s) from by simp [No.has,hk,ZDz]] at hQ
  simp(disch:=omega)[hk,cloR]
  refine ZFa H.slicesContainsFuncLApiFieldApiField H.slicesIndexFuncLApiFieldApiField hx.2.2.1.1 (fun _ _=>rfl) (os:=[[.s s]]) (p:=fun f=>dq (f.s=s)) (Pass.dat rfl) PassR.nil (by simp [PassR]) (fun f hf Q hQ=>?_) ?_
  ·simp [ZDB]
   refine .code H.ifaceHasFieldX1q rfl ?_
   simp(disch:=omega)[Zi6]
   by_cases e:f.s=s
   ·rw [ZDz e] at hQ
    simp(disch:=omega)[e]
    exact hQ
   ·rw [ZDy e] at hQ
    simp(disch:=omega)[e]
    exact hQ
  ·simp(disch:=omega)
   exact hQ
end Go.Am.Fe
end
section
namespace Go.Am.Fe
variable {S:SF} {Q:QF}
attribute [local simp] ZbO if_pos if_neg decide_eq_true decide_eq_false Yi Yj ZgF Ops.callv List.idxOf?_cons
abbrev Rz:=Int×LN
abbrev Rz.row (x:Rz):List P:=[.i x.1,.str x.2]
def rzs (l:List Rz):LP:=l.map Rz.row
def ZGo {l:List Rz} {x:Rz}:rzs (l++[x])=rzs l++[x.row]:=by simp [rzs]
def ZFe {l:List Rz}:(rzs l).length=l.length:=by simp [rzs]
abbrev RS (m1 m2:Mo) (l:List Rz):LC:=[.l 17 (m1.ns.map No.row),.l 3 (m1.ps.map Pr.row),.l 9 (m1.cs.map Co.row),.l 22 (m1.fs.map Fu.row),.l 17 (m2.ns.map No.row),.l 3 (m2.ps.map Pr.row),.l 9 (m2.cs.map Co.row),.l 22 (m2.fs.map Fu.row),.tip 2 (rzs l)]
open Tx in
def firC (s:Nat) (z:LC):SFunc:=⟨3,[],[],
 (q (r [o (.makeMap 10010) [] 10,mt 10 6])
 (q (r [mt 0 11,le 11 12,mv (n 0) 13])
 (k 0 (lo [1,2,6,11,12,13,9999] (q (r [o ls [v 13,v 12] 14])
 (q (i 14 e (ex 0))
 (q (k 1 (q (r [ix s 11 (v 13) 15,ls2 s 15 16,al 10008 z 8,su 10008 s 8 16])
 (q (r [m 1 17,ln 10008 s 8 18,cv 1 [v 17,v 18,v 9999] 19,m 19 9])
 (q (r [m 6 20,m 9 21,⟨(.lookup 0 (.bool false)),[v 20,v 21,v 6],[6],[22,6],none,true⟩,nt 22 23])
 (i 23 (q (r [m 6 24,m 9 25,⟨(.update 0),[v 24,v 25,b true,v 6],[6],[6],none,false⟩])
 (r [m 2 26,ln 10008 s 8 27,cv 1 [v 26,v 27,v 9999] 28])) e)))))
 (r [o ad [v 13,n 1] 29,m 29 13]))))))))⟩
def ZGt {α:Type} (f:α->LN) (l:List α) (i:Nat):Prop:= ∃h:i<l.length,∀x∈l.take i,f x≠f l[i]
noncomputable def ZDO {α:Type} (f:α->LN) (l:List α) (n:Nat):List α:=(List.range n).filterMap fun i=>if dq (ZGt f l i) then l[i]? else none
noncomputable def ZDP {α:Type} (f:α->LN) (l:List α):List α:=ZDO f l l.length
def ZEV {α:Type} {f:α->LN} {l:List α} {j:Nat} (hj:j<l.length) (h:ZGt f l j):ZDO f l (j+1)=ZDO f l j++[l[j]]:=by
 simp [ZDO,List.range_succ,ZDz h,Ya hj]
def ZFd {α:Type} {f:α->LN} {l:List α} {j:Nat} (h: ¬ZGt f l j):ZDO f l (j+1)=ZDO f l j:=by
 simp [ZDO,List.range_succ,ZDy h]
def ZDI {α:Type} {f:α->LN} {l:List α} {x:α} (h:x∈ZDP f l): ∃(i:Nat) (hi:i<l.length),l[i]=x/\At f l (f x) i:=by
 obtain ⟨i,hi,h⟩:=List.mem_filterMap.1 h
 split at h
 ·rename_i hf
  have hi:=List.mem_range.1 hi
  rw [Ya hi] at h
  injection h with h
  obtain ⟨_,h2⟩:=ZD3.1 hf
  subst h
  exact ⟨i,hi,rfl,hi,rfl,h2⟩
 ·cases h
def ZEB {α:Type} {f:α->LN} {l:List α} {n:Nat} (h:n<=l.length): ∃t,ZDP f l=ZDO f l n++t:=by
 unfold ZDP ZDO
 obtain ⟨k,hk⟩: ∃k,l.length=n+k:=⟨_,(Nat.add_sub_cancel' h).symm⟩
 rw [hk,List.range_add,List.filterMap_append]
 exact ⟨_,rfl⟩
def ZF3 (ks:List LN):List (P×P):=ks.map fun s=>(.str s,.bool true)
def ZGz: ∀{ks:List LN} {s:LN} {i:Nat},s∉ks->Zxz (ZF3 ks) (.str s) i=some none
 | [],_,_,_=>rfl
 | k::ks,s,i,h=>by
   have h1:s≠k:=fun e=>h (by simp [e])
   simp only [ZF3,Yp,Zxz,peqK,Zrf,decide_eq_false h1]
   exact ZGz fun e=>h (Yk _ e)
def ZGJ: ∀{ks:List LN} {s:LN} {i:Nat},s∈ks-> ∃j,Zxz (ZF3 ks) (.str s) i=some (some (j,.bool true))
 | k::ks,s,i,h=>by
   by_cases h1:s=k
   · exact ⟨i,by simp only [ZF3,Yp,Zxz,peqK,Zrf,decide_eq_true h1]⟩
   · obtain ⟨j,hj⟩:=ZGJ (ks:=ks) (i:=i+1) ((List.mem_cons.1 h).resolve_left h1)
     refine ⟨j,?_⟩
     simp only [ZF3,Yp,Zxz,peqK,Zrf,decide_eq_false h1]
     exact hj
def ZFb {α:Type} {N s:Nat} {z:LC} (hN:S N=some (.code (firC s z))) (hz:z.length=s) {nf cf:Nat} {first caps:List R} {l:List α} {w:α->List P} {f:α->LN} {R:α->List Rz} {st:List Rz->List LC} {K:Nat} (hl:l.length<=100000) (hs: ∀x∈l,(w x).length=s)
  (ho: ∀b,Pass (st b)) (hK: ∀b,(st b).length=K) (h1:PassR K first) (h2:PassR K caps)
  (hn: ∀x∈l,∀b Q,Q [ps (f x)] (st b)->Gives S nf [.agg ((w x).map .p)] (st b) Q)
  (hc: ∀x∈ZDP f l,∀b Q,(b++R x).length<68719476736->Q [] (st (b++R x))->Gives S cf (ZDB first caps [.agg ((w x).map .p)]) (st b) Q)
  {b:List Rz} (hb:(b++(ZDP f l).flatMap R).length<68719476736) (hQ:Q [] (st (b++(ZDP f l).flatMap R))):
  Gives S N [.one (.p (.sl s (l.map w))),.one (.clo nf [] []),.one (.clo cf first caps)] (st b) Q:=by
 have hcl:=ZFt h1 h2
 have hm0:=fun κ=>(ho b).ment (κ:=κ)
 have htk: ∀b,(st b).take K=st b:=fun b=>Yg (Nat.le_of_eq (hK b))
 have hdk: ∀b,((st b).map fun cs=>D.a (A.agg cs)).drop K=[]:=fun b=>List.drop_of_length_le (Nat.le_of_eq (by rw [Yh,hK b]))
 refine .code hN rfl ?_
 simp(disch:=omega)[firC,hcl,hm0]
 refine Lp.rule (fun (q:Nat×List LN)=>[(1,.a (.one (.clo nf [] []))),(2,.a (.one (.clo cf first caps))),(6,.a (.one (.map ⟨true,10010,0⟩ (ZF3 q.2)))),(11,.a (.one (.p (.sl s (l.map w))))),(12,.a (pi l.length)),(13,.a (pi q.1)),(9999,.objs (st (b++(ZDO f l q.1).flatMap R)))]) (fun q=>q.1<=l.length/\ ∀s,s∈q.2↔ ∃x∈l.take q.1,f x=s) (fun q=>l.length-q.1) (a₀:=(0,[])) (by simp [ZF3,ZDO]) ⟨Yd _,by simp⟩ ?_
 rintro ⟨j,ks⟩ ⟨k1,k2⟩
 dsimp only at k1 k2
 by_cases hj:j<l.length
 · have hm:=Yl hj
   have e:=hs _ hm
   obtain ⟨t,ht⟩:=ZEB (f:=f) k1
   have hd:z.drop (w l[j]).length=[]:=by simp [hz,e]
   have hks:(f l[j]∈ks)↔ ¬ZGt f l j:=by
    rw [k2]
    constructor
    ·rintro ⟨x,hx,hxe⟩ ⟨_,h⟩
     exact h x hx hxe
    ·intro h
     by_cases hh: ∃x∈l.take j,f x=f l[j]
     ·exact hh
     ·exact absurd ⟨hj,fun x hx hxe=>hh ⟨x,hx,hxe⟩⟩ h
   have hnx: ∀ks':List LN,(∀s,s∈ks'↔s∈ks∨s=f l[j])-> ∀s,s∈ks'↔ ∃x∈l.take (j+1),f x=s:=fun ks' h s=>by
    rw [h,k2,Ym,Ya hj]
    simp only [Option.toList_some,Ys,List.mem_singleton]
    constructor
    ·rintro (⟨x,hx,hxe⟩|rfl)
     ·exact ⟨x,.inl hx,hxe⟩
     ·exact ⟨_,.inr rfl,rfl⟩
    ·rintro ⟨x,(hx|rfl),hxe⟩
     ·exact .inl ⟨x,hx,hxe⟩
     ·exact .inr hxe.symm
   have hoj:=ho (b++(ZDO f l j).flatMap R)
   have hmt:=fun κ=>hoj.ment (κ:=κ)
   have hdn:=hoj.down
   have hup:=hoj.up
   rw [hK] at hdn hup
   simp(disch:=omega)[ZF4 e,hdn,hup,hK,hz,putR e hz,hmt,hd,cutR e,hcl]
   refine hn _ hm _ _ ?_
   simp(disch:=omega)[hdn,hup,hK,hmt,htk,hdk]
   by_cases hin:f l[j]∈ks
   ·have hf:=hks.1 hin
    obtain ⟨i,hi⟩:=ZGJ (i:=0) hin
    simp(disch:=omega)[hi,ZuN]
    exact RdN.mk (j+1,ks) (by simp only [ZFd hf];rfl) ⟨hj,hnx ks fun s=>⟨.inl,fun h=>h.elim id fun h=>by rw [h];exact hin⟩⟩ dO
   ·have hf:ZGt f l j:=Classical.not_not.1 fun h=>hin (hks.2 h)
    obtain ⟨t,ht⟩:=ZEB (f:=f) (l:=l) (n:=j+1) hj
    have hy:=ZEV hj hf
    have hx:l[j]∈ZDP f l:=by rw [ht,hy];simp
    have e2:b++(ZDO f l (j+1)).flatMap R=b++(ZDO f l j).flatMap R++R l[j]:=by rw [hy];simp
    have hoj':=ho (b++(ZDO f l (j+1)).flatMap R)
    have hup':=hoj'.up
    have hmt':=fun κ=>hoj'.ment (κ:=κ)
    rw [hK] at hup'
    simp(disch:=omega)[ZGz hin,ZuN,ZF4 e,hdn,hK,ZFi h1 h2]
    refine hc _ hx _ _ ?_ ?_
    ·rw [<-e2]
     rw [ht] at hb
     simp at hb⊢
     omega
    ·rw [<-e2]
     simp(disch:=omega)[hup',hK,hmt',htk,hdk]
     exact RdN.mk (j+1,ks++[f l[j]]) (by simp [ZF3]) ⟨hj,hnx _ fun s=>by simp⟩ dO
 · simp(disch:=omega)[(ho _).fin]
   rw [show j=l.length by omega]
   exact hQ
end Go.Am.Fe
end
