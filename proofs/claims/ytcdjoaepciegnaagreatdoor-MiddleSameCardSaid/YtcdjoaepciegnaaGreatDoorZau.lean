/- Part. -/
import Derived.Test.YtcdjoaepciegnaaGreatDoorZap
import Derived.Test.YtcdjoaepciegnaaGreatDoorZai
set_option maxRecDepth 999999
set_option maxHeartbeats 0
set_option linter.all false
section
namespace Go.Am.Fe
variable {S:Nat->Option Fn} {Q:List A->List (List C)->Prop}
attribute [local simp] ZbO if_pos if_neg decide_eq_true decide_eq_false Yi Yj ZgF Ops.callv List.idxOf?_cons
def ZF4 {r:List P} {s:Nat} (h:r.length=s):List.take s (r.map C.p)=r.map C.p:=Yg Ze
open Tx in
def eqfC (s:Nat) (z:List C):SFunc:=⟨3,[],[.tmp 6],
 (q (r [mv (b false) 6])
 (q (q (r [m 0 10,le 10 11,m 1 12,le 12 13,o ne [v 11,v 13] 14])
 (i 14 (q (r [mv (b false) 6])
 .ret) e))
 (q (q (r [mt 0 15,le 15 16,mv (n 0) 17])
 (k 0 (lo [1,2,15,16,17,9999] (q (r [o ls [v 17,v 16] 18])
 (q (i 18 e (ex 0))
 (q (k 1 (q (r [m 17 19,ix s 15 (v 17) 20,ls2 s 20 21,al 10008 z 8,m 19 7,su 10008 s 8 21])
 (q (r [m 1 22,m 7 23,ix s 22 (v 23) 24,ls2 s 24 25,al 10009 z 9,su 10009 s 9 25])
 (q (r [m 2 26,ln 10008 s 8 27,ln 10009 s 9 28,cv 2 [v 26,v 27,v 28,v 9999] 29,nt 29 30])
 (i 30 (q (r [mv (b false) 6])
 .ret) e)))))
 (r [o ad [v 17,n 1] 31,m 31 17])))))))
 (q (r [mv (b true) 6])
 .ret))))⟩
def all2 {α β:Type} (p:α->β->Bool):List α->List β->Bool
 | [],[]=>true
 | a::l,b::m=>p a b && all2 p l m
 | _,_=>false
def ZFv {α β:Type} {p:α->β->Bool}: ∀{l:List α} {m:List β},l.length≠m.length->all2 p l m=false
 | [],[],h=>absurd rfl h
 | _::_,_::_,h=>by rw [all2,ZFv (by simpa using h),Bool.and_false]
 | [],_::_,_=>rfl
 | _::_,[],_=>rfl
def putR {r:List P} {s:Nat} {z:List C} (h:r.length=s) (hz:z.length=s):put z 0 (r.map C.p)=some (r.map C.p):=by
 simp [put,h,hz]
def cutR {r:List P} {s:Nat} (h:r.length=s):cut (r.map C.p) 0 s=some (r.map C.p):=by
 simp [cut,h,ZF4 h]
def ZNI {N s:Nat} {z:List C} (hN:S N=some (.code (eqfC s z))) (hz:z.length=s) {f:Nat} {l l':List (List P)} (hl:l.length<=9223372036854775807) (hll:l'.length=l.length) (hs: ∀x∈l,x.length=s) (hs': ∀x∈l',x.length=s)
  {r:Nat->Prop} (hp: ∀(j:Nat) (h:j<l.length) (h':j<l'.length) (Q:List A->List (List C)->Prop),Q [pb (dq (r j))] []->Gives S f [.agg (l[j].map .p),.agg (l'[j].map .p)] [] Q) (hQ:Q [pb (dq (∀j,j<l.length->r j))] []):
  Gives S N [.one (.p (.sl s l)),.one (.p (.sl s l')),.one (.clo f [] [])] [] Q:=by
 refine .code hN rfl ?_;simp(disch:=omega)[eqfC,hll];refine Lp.rule (fun (j:Nat)=>[(1,.a (.one (.p (.sl s l')))),(2,.a (.one (.clo f [] []))),(15,.a (.one (.p (.sl s l)))),(16,.a (pi l.length)),(17,.a (pi j)),(9999,.objs [])]) (fun j=>j<=l.length/\ ∀i,i<j->r i) (fun j=>l.length-j) (a₀:=0) Zs ⟨Yd _,by simp⟩ ?_;rintro j ⟨k1,k2⟩;by_cases hj:j<l.length
 · have hj':j<l'.length:=by omega
   have e:=hs _ (Yl hj);have e':=hs' _ (Yl hj');have hd:z.drop l[j].length=[]:=by simp [hz,e]
   have hd':z.drop l'[j].length=[]:=by simp [hz,e']
   simp(disch:=omega)[ZF4 e,ZF4 e',hz,putR e hz,putR e' hz,hd,hd',cutR e,cutR e'];refine hp j hj hj' _ ?_;by_cases hr:r j
   ·rw [ZDz hr];simp(disch:=omega);exact RdN.mk (j+1) Zs ⟨hj,fun i hi=>by
     rcases Yt i j with h|h
     ·exact k2 i h
     ·rw [show i=j by omega];exact hr⟩ Zo
   ·rw [ZDy hr];rw [ZDy fun h=>hr (h j hj)] at hQ;simp(disch:=omega);exact hQ
 · simp(disch:=omega);rw [ZDz fun i hi=>k2 i Zo] at hQ;exact hQ
def ZE5 {α β:Type} {f:α->β} {p:α->α->Bool}: ∀{l m:List α},(∀x∈l,∀y∈m,p x y=dq (f x=f y))->all2 p l m=dq (l.map f=m.map f)
 | [],[],_=>(ZDz rfl).symm
 | x::l,y::m,h=>by
   rw [all2,h x Yr y Yr,ZE5 fun a ha b hb=>h a (Yk _ ha) b (Yk _ hb)];by_cases h1:f x=f y
   · rw [ZDz h1,Bool.true_and];by_cases h2:l.map f=m.map f
     · rw [ZDz h2,ZDz (by simp [h1,h2])]
     · rw [ZDy h2,ZDy (by simp [h2])]
   · rw [ZDy h1,Bool.false_and,ZDy (by simp [h1])]
 | [],_::_,_=>(ZDy Zs).symm
 | _::_,[],_=>(ZDy Zs).symm
def ZEm {α:Type} {p:α->α->Bool} {l m:List α} (h: ∀x∈l,∀y∈m,p x y=dq (x=y)):all2 p l m=dq (l=m):=by
 have:=ZE5 (f:=id) h;simpa using this
def ZMr {α β:Type} {p:α->β->Bool}: ∀{l:List α} {m:List β} (_:l.length=m.length),all2 p l m=dq (∀(j:Nat) (h:j<l.length) (h':j<m.length),p l[j] m[j]=true)
 | [],[],_=>(ZDz fun j h=>absurd h (YH _)).symm
 | a::l,b::m,h=>by
   rw [all2,ZMr (l:=l) (m:=m) (by simpa using h),Bool.eq_iff_iff,Yb,ZD3,ZD3];exact ⟨fun ⟨h1,h2⟩ j hj hj'=>by cases j with
     | zero=>exact h1
     | succ j=>exact h2 j (by simpa using hj) (by simpa using hj'),fun h=>⟨h 0 Zs Zs,fun j hj hj'=>h (j+1) (by simpa using hj) (by simpa using hj')⟩⟩
 | [],_::_,h=>by cases h
 | _::_,[],h=>by cases h
def ZEU {α:Type} {N s:Nat} {z:List C} (hN:S N=some (.code (eqfC s z))) (hz:z.length=s) {f:Nat} {l l':List α} {w:α->List P} (hl:l.length<=9223372036854775807) (hl':l'.length<=9223372036854775807) (hs: ∀x,(w x).length=s)
  {p:α->α->Bool} (hp: ∀x∈l,∀y∈l',∀Q,Q [pb (p x y)] []->Gives S f [.agg ((w x).map .p),.agg ((w y).map .p)] [] Q) (hQ:Q [pb (all2 p l l')] []):
  Gives S N [.one (.p (.sl s (l.map w))),.one (.p (.sl s (l'.map w))),.one (.clo f [] [])] [] Q:=by
 by_cases hll:l.length=l'.length
 · refine ZNI hN hz (by simpa using hl) (by simp [hll]) (fun x hx=>by obtain ⟨_,_,rfl⟩:=List.mem_map.1 hx;exact hs _) (fun x hx=>by obtain ⟨_,_,rfl⟩:=List.mem_map.1 hx;exact hs _)
    (r:=fun j=> ∀(h:j<l.length) (h':j<l'.length),p l[j] l'[j]=true) (fun j h h' Q hQ=>?_) ?_
   ·rw [List.getElem_map,List.getElem_map];have h1:j<l.length:=by simpa using h
    have h2:j<l'.length:=by simpa using h'
    refine hp _ (Yl h1) _ (Yl h2) _ ?_;rwa [show p l[j] l'[j]=dq (∀(h:j<l.length) (h':j<l'.length),p l[j] l'[j]=true) from by
     rw [Bool.eq_iff_iff,ZD3];exact ⟨fun h _ _=>h,fun h=>h h1 h2⟩]
   ·rw [ZMr hll] at hQ;rw [Yh];rwa [show (∀j,j<l.length-> ∀(h:j<l.length) (h':j<l'.length),p l[j] l'[j]=true)=(∀(j:Nat) (h:j<l.length) (h':j<l'.length),p l[j] l'[j]=true) from by
     rw [eq_iff_iff];exact ⟨fun h j a b=>h j a a b,fun h j _ a b=>h j a b⟩]
 · rw [show all2 p l l'=false from ZFv hll] at hQ;refine .code hN rfl ?_;simp(disch:=omega)[eqfC,hll];exact hQ
def ZJp {α:Type} {N s:Nat} {z:List C} (hN:S N=some (.code (eqfC s z))) (hz:z.length=s) {f:Nat} {l:List α} {w:α->List P} (hl:l.length<=9223372036854775807) (hs: ∀x,(w x).length=s)
  (hp: ∀x∈l,∀Q,Q [pb true] []->Gives S f [.agg ((w x).map .p),.agg ((w x).map .p)] [] Q) (hQ:Q [pb true] []):
  Gives S N [.one (.p (.sl s (l.map w))),.one (.p (.sl s (l.map w))),.one (.clo f [] [])] [] Q:=by
 refine ZNI hN hz (by simpa using hl) rfl (fun x hx=>by obtain ⟨_,_,rfl⟩:=List.mem_map.1 hx;exact hs _) (fun x hx=>by obtain ⟨_,_,rfl⟩:=List.mem_map.1 hx;exact hs _)
    (r:=fun _=>True) (fun j h h' Q hQ=>?_) ?_
 · rw [ZDz trivial] at hQ;rw [List.getElem_map];exact hp _ (Yl _) _ hQ
 · rw [ZDz fun _ _=>trivial];exact hQ
end Go.Am.Fe
end
section
namespace Go.Am.Fe
variable {S:Nat->Option Fn} {Q:List A->List (List C)->Prop}
attribute [local simp] ZbO if_pos if_neg decide_eq_true decide_eq_false Yi Yj ZgF Ops.callv List.idxOf?_cons
attribute [local simp] Ty.encs_length
def ZHk {α:Type} {f:α->List P} {l:List α} {j:Nat} (h:j<(l.map f).length):(l.map f)[j]=f (l[j]'(by simpa using h)):=List.getElem_map ..
def ZEL (H:HM S) {a b:Int} (hQ: ∀c:Int, -1<=c->c<=1->(c=0↔a=b)->Q [pi c] []):Gives S ZdR [pi a,pi b] [] Q:=by
 refine .code H.cmpCompareInt rfl ?_;simp(disch:=omega)[ZlZ];refine .code H.cmpIsNaNIntq rfl ?_;simp(disch:=omega)[Zne];refine .code H.cmpIsNaNIntq rfl ?_;simp(disch:=omega)[Zne];rcases Int.lt_trichotomy a b with h|h|h
 ·simp(disch:=omega)[h];exact hQ _ Zo Zo Zo
 ·subst h;simp(disch:=omega);exact hQ _ Zo Zo Zo
 ·simp(disch:=omega)[h];exact hQ _ Zo Zo Zo
def ZGe (H:HM S) {a b:List Nat} (hQ:Q [pi (cmpN a b)] []):Gives S Zg5 [ps a,ps b] [] Q:=by
 refine .code H.stringsCompare rfl ?_;simp(disch:=omega)[ZlE];refine H.cmp _ _ ?_;simp(disch:=omega);exact hQ
def ZGd (H:HM S) {a b c:Int} (hQ:Q [pi (if a≠0 then a else if b≠0 then b else c)] []):Gives S Zod [.one (.p (.sl 1 [[.int .i64 a],[.int .i64 b],[.int .i64 c]]))] [] Q:=by
 refine .code H.cmpOrInt rfl ?_;simp(disch:=omega)[ZsJ];refine Lp.rule (fun (j:Nat)=>[(3,.a (pi 0)),(6,.a (.one (.p (.sl 1 [[.int .i64 a],[.int .i64 b],[.int .i64 c]])))),(7,.a (pi 3)),(8,.a (pi j)),(9999,.objs [])]) (fun j=>j<=3/\(1<=j->a=0)/\(2<=j->b=0)/\(3<=j->c=0)) (fun j=>3-j) (a₀:=0) Zs Zo ?_;rintro j ⟨k1,k2,k3,k4⟩;obtain rfl|rfl|rfl|rfl:j=0∨j=1∨j=2∨j=3:=by omega
 ·by_cases h:a=0
  ·simp(disch:=omega)[h];exact RdN.mk 1 (by simp [h]) Zo Zo
  ·rw [if_pos h] at hQ;simp(disch:=omega)[h];exact hQ
 ·obtain rfl:=k2 Zo;by_cases h:b=0
  ·simp(disch:=omega)[h];exact RdN.mk 2 (by simp [h]) Zo Zo
  ·simp [h] at hQ;simp(disch:=omega)[h];exact hQ
 ·obtain rfl:=k2 Zo;obtain rfl:=k3 Zo;by_cases h:c=0
  ·simp(disch:=omega)[h];exact RdN.mk 3 (by simp [h]) Zo Zo
  ·simp at hQ;simp(disch:=omega)[h];exact hQ
 ·obtain rfl:=k2 Zo;obtain rfl:=k3 Zo;obtain rfl:=k4 Zo;simp at hQ;simp(disch:=omega);exact hQ
def CmpQ (S:Nat->Option Fn) (n:Nat):Prop:= ∀(t u:Ty) (Q:List A->List (List C)->Prop),t.sz<n->t.fw->u.fw->(∀c:Int, -1<=c->c<=1->(c=0↔t=u)->Q [pi c] [])->Gives S Zfu [.agg t.cs,.agg u.cs] [] Q
def ZGv (H:HM S) {n:Nat} (ih:CmpQ S n) {a b:List Ty} (hs:Ty.szs a<n) (ha:a.length<=9223372036854775807) (hb:b.length<=9223372036854775807) (ha':Ty.fws a) (hb':Ty.fws b) (hQ: ∀c:Int, -1<=c->c<=1->(c=0↔a=b)->Q [pi c] []):
  Gives S ZeX [.one (.p (.sl 4 (Ty.encs a))),.one (.p (.sl 4 (Ty.encs b))),.one (.clo Zfu [] [])] [] Q:=by
 have ga:=Ty.encs_length (a:=a);have gb:=Ty.encs_length (a:=b);refine .code H.typesListsApiTypeq rfl ?_;simp(disch:=omega)[ZhH];refine Lp.rule (fun (j:Nat)=>[(0,.a (.one (.p (.sl 4 (Ty.encs a))))),(1,.a (.one (.p (.sl 4 (Ty.encs b))))),(2,.a (.one (.clo Zfu [] []))),(7,.a (pi j)),(9999,.objs [])]) (fun j=>j<=a.length/\j<=b.length/\a.take j=b.take j) (fun j=>a.length-j) (a₀:=0) Zs ⟨Yd _,Yd _,by simp⟩ ?_;rintro j ⟨k1,k2,k3⟩;have fin: ¬(j<a.length/\j<b.length)->((a.length:Int)=b.length↔a=b):=fun h=>⟨fun h'=>by
  rwa [Yg Zo,Yg Zo] at k3,fun h'=>by rw [h']⟩
 by_cases hj:j<a.length
 ·by_cases hj':j<b.length
  ·have e:=Ty.encs_get (l:=a) (j:=j) (by simpa using hj);have e':=Ty.encs_get (l:=b) (j:=j) (by simpa using hj');simp(disch:=omega)[e,e'];refine ih a[j] b[j] _ (by have:=Ty.szs_get hj;omega) (Ty.fws_get ha' hj) (Ty.fws_get hb' hj') fun c c1 c2 hc=>?_;by_cases h0:c=0
   ·have:=hc.1 h0;simp(disch:=omega)[h0];exact RdN.mk (j+1) rfl ⟨hj,hj',by rw [Ym,Ym,k3,Ya hj,Ya hj',this]⟩ Zo
   ·simp(disch:=omega)[h0];refine hQ c c1 c2 ⟨fun h=>absurd h h0,fun h=>?_⟩;subst h;exact absurd (hc.2 rfl) h0
  ·simp(disch:=omega);refine ZEL H fun c c1 c2 hc=>?_;simp(disch:=omega);exact hQ c c1 c2 (hc.trans (fin Zo))
 ·simp(disch:=omega);refine ZEL H fun c c1 c2 hc=>?_;simp(disch:=omega);exact hQ c c1 c2 (hc.trans (fin Zo))
def ZFZ (H:HM S): ∀n,CmpQ S n
 | 0=>fun _ _ _ h=>absurd h (YH _)
 | n+1=>fun t u Q hs h1 h2 hQ=>by
   have ih:=ZFZ H n;refine .code H.typesCompareq rfl ?_;simp(disch:=omega)[ZlW];refine ZEL H fun c1 p1 p2 p3=>?_;simp(disch:=omega);refine ZGe H ?_;simp(disch:=omega);refine ZEL H fun c2 q1 q2 q3=>?_;simp(disch:=omega);refine ZGd H ?_;simp(disch:=omega);by_cases e1:t.k=u.k
   · obtain rfl:=p3.2 e1;by_cases e2:t.s=u.s
     · have e2':=(ZEI _ _).2 e2;by_cases e3:t.n=u.n
       · obtain rfl:=q3.2 e3;simp(disch:=omega)[e2'];refine ZGv H ih (by have:=Ty.sz_a (t:=t);omega) (Ty.fw_len h1) (Ty.fw_len h2) (Ty.fw_a h1) (Ty.fw_a h2) fun c r1 r2 r3=>?_;simp(disch:=omega);exact hQ c r1 r2 (by rw [r3,Ty.eq_iff];simp [e1,e2,e3])
       · have e3': ¬c2=0:=fun h=>e3 (q3.1 h);simp(disch:=omega)[e2',e3'];exact hQ c2 q1 q2 ⟨fun h=>absurd h e3',fun h=>absurd (by rw [h]) e3⟩
     · have e2': ¬cmpN t.s u.s=0:=fun h=>e2 ((ZEI _ _).1 h);have:=ZGp t.s u.s;simp(disch:=omega)[e2'];exact hQ _ this.1 this.2 ⟨fun h=>absurd h e2',fun h=>absurd (by rw [h]) e2⟩
   · have e1': ¬c1=0:=fun h=>e1 (p3.1 h);simp(disch:=omega)[e1'];exact hQ c1 p1 p2 ⟨fun h=>absurd h e1',fun h=>absurd (by rw [h]) e1⟩
def ZEE (H:HM S) {t u:Ty} (h1:t.fw) (h2:u.fw) (hQ:Q [pb (dq (t=u))] []):Gives S Zcr [.agg t.cs,.agg u.cs] [] Q:=by
 refine .code H.typesEqual rfl ?_;simp(disch:=omega)[Zpx];refine ZFZ H (t.sz+1) t u _ (Yz _) h1 h2 fun c _ _ hc=>?_;by_cases h:c=0
 ·rw [ZDz (hc.1 h)] at hQ;simp(disch:=omega)[h];exact hQ
 ·rw [ZDy fun h'=>h (hc.2 h')] at hQ;simp(disch:=omega)[h];exact hQ
def ZGw (H:HM S) {l m:List (List Nat)} (hl:l.length<=9223372036854775807) (hm:m.length<=9223372036854775807) (hQ:Q [pb (dq (l=m))] []):Gives S Zmb [.one (.p (.sl 1 (strs l))),.one (.p (.sl 1 (strs m)))] [] Q:=by
 have g0:(strs l).length=l.length:=by simp [strs]
 have g1:(strs m).length=m.length:=by simp [strs]
 refine .code H.slicesEqualLStringString rfl ?_;simp(disch:=omega)[ZDE];by_cases hlm:l.length=m.length
 ·simp(disch:=omega)[hlm,g0,g1];refine Lp.rule (fun (j:Nat)=>[(0,.a (.one (.p (.sl 1 (strs l))))),(1,.a (.one (.p (.sl 1 (strs m))))),(12,.a (pi m.length)),(13,.a (pi j)),(9999,.objs [])]) (fun j=>j<=l.length/\l.take j=m.take j) (fun j=>l.length-j) (a₀:=0) (by simp [g0,hlm]) ⟨Yd _,by simp⟩ ?_;rintro j ⟨k1,k2⟩;by_cases hj:j<l.length
  ·have e:(strs l)[j]'(by omega)=[.str l[j]]:=by simp [strs]
   have e':(strs m)[j]'(by omega)=[.str (m[j]'(by omega))]:=by simp [strs]
   by_cases h:l[j]=m[j]'(by omega)
   ·simp(disch:=omega)[e,e',h];exact RdN.mk (j+1) (by simp [hlm]) ⟨hj,by rw [Ym,Ym,k2,Ya hj,Ya Zo,h]⟩ Zo
   ·simp(disch:=omega)[e,e',h];rw [ZDy (by rintro rfl;exact h rfl)] at hQ;exact hQ
  ·simp(disch:=omega);rw [Yg Zo,Yg Zo] at k2;rw [ZDz k2] at hQ;exact hQ
 ·simp(disch:=omega)[hlm,g0,g1];rw [ZDy (by rintro rfl;exact hlm rfl)] at hQ;exact hQ
def ZH4 {α:Type} {a b:List α} {j:Nat} (h:a.take j=b.take j) (ha:j<a.length) (hb:j<b.length) (he:a[j]=b[j]):a.take (j+1)=b.take (j+1):=by
 rw [Ym,Ym,h,Ya ha,Ya hb,he]
def ZIq {α:Type} {a b:List α} {j:Nat} (h:a.take j=b.take j) (ha:a.length<=j) (hb:b.length<=j):a=b:=by
 rwa [Yg ha,Yg hb] at h
def ZI6 {α:Type} {a b:List α} {j:Nat} (ha:j<a.length) (hb:j<b.length) (h:a[j]≠b[j]):a≠b:=fun e=>h (by subst e;rfl)
def ZMo {l:List (List Nat)} {j:Nat} (h:j<(strs l).length):(strs l)[j]=[.str (l[j]'(by simpa [strs] using h))]:=by simp [strs]
def EqT (S:Nat->Option Fn) (n:Nat):Prop:= ∀(t u:Ty) (Q:List A->List (List C)->Prop),t.sz<n->t.fw->u.fw->Q [pb (dq (t=u))] []->Gives S ZbG [.agg t.cs,.agg u.cs] [] Q
def Ty.fw_args {t:Ty} (h:t.fw):Ok Ty.fw t.a:=⟨Ty.fw_len h,fun x hx=>by cases t;exact Ty.fws_mem h.2 x hx⟩
def ZMF (H:Has S) {n:Nat} (ih:EqT S n) {a b:List Ty} (hm:Ty.szs a<n) (h1:Ok Ty.fw a) (h2:Ok Ty.fw b) (hQ:Q [pb (dq (a=b))] []):Gives S ZdD [.one (.p (.sl 4 (Ty.encs a))),.one (.p (.sl 4 (Ty.encs b)))] [] Q:=by
 have g1:=h1.1;have g2:=h2.1;have e1:(Ty.encs a).length=a.length:=Ty.encs_length;have e2:(Ty.encs b).length=b.length:=Ty.encs_length;refine .code H.ZqJ rfl ?_;simp(disch:=omega)[Zhc];by_cases hl:a.length=b.length
 ·simp(disch:=omega)[hl];refine Lp.rule (fun (j:Nat)=>[(0,.a (.one (.p (.sl 4 (Ty.encs a))))),(1,.a (.one (.p (.sl 4 (Ty.encs b))))),(5,.a (pi j)),(9999,.objs [])]) (fun j=>j<=a.length/\a.take j=b.take j) (fun j=>a.length-j) (a₀:=0) Zs ⟨Yd _,by simp⟩ ?_;rintro j ⟨k1,k2⟩;by_cases hj:j<a.length
  ·have hjb:j<b.length:=by omega
   have r1:=Ty.encs_get (l:=a) (j:=j) Zo;have r2:=Ty.encs_get (l:=b) (j:=j) Zo;simp(disch:=omega)[r1,r2];refine ih _ _ _ (by have:=Ty.szs_get hj;omega) (h1.2 _ (Yl hj)) (h2.2 _ (Yl hjb)) ?_;by_cases he:a[j]=b[j]
   ·rw [ZDz he];simp(disch:=omega);exact RdN.mk (j+1) Zs ⟨hj,ZH4 k2 hj hjb he⟩ Zo
   ·rw [ZDy he];simp(disch:=omega);rw [ZDy (ZI6 hj hjb he)] at hQ;exact hQ
  ·simp(disch:=omega);rw [ZDz (ZIq k2 Zo Zo)] at hQ;exact hQ
 ·simp(disch:=omega)[hl];rw [ZDy fun h=>hl (by rw [h])] at hQ;exact hQ
def ZJ0 (H:Has S): ∀n,EqT S n
 | 0=>fun _ _ _ h=>absurd h (YH _)
 | n+1=>by
   intro t u Q hm h1 h2 hQ;have ih:=ZJ0 H n;refine .code H.Ztw rfl ?_;simp(disch:=omega)[Ziv];by_cases e1:t.k=u.k
   · by_cases e2:t.s=u.s
     · by_cases e3:t.n=u.n
       · simp(disch:=omega)[e1,e2,e3];refine ZMF H ih (by cases t;simp [Ty.sz,Ty.a] at hm⊢;omega) (Ty.fw_args h1) (Ty.fw_args h2) ?_;simp(disch:=omega);rwa [show (dq (t.a=u.a))=dq (t=u) from by
           by_cases e4:t.a=u.a
           · rw [ZDz e4,ZDz (Ty.ext e1 e2 e3 e4)]
           · rw [ZDy e4,ZDy fun h=>e4 (by rw [h])]]
       · rw [ZDy fun h=>e3 (by rw [h])] at hQ;simp(disch:=omega)[e1,e2,e3];exact hQ
     · rw [ZDy fun h=>e2 (by rw [h])] at hQ;simp(disch:=omega)[e1,e2];exact hQ
   · rw [ZDy fun h=>e1 (by rw [h])] at hQ;simp(disch:=omega)[e1];exact hQ
def ZLl (H:Has S) {t u:Ty} (h1:t.fw) (h2:u.fw) (hQ:Q [pb (dq (t=u))] []):Gives S ZbG [.agg t.cs,.agg u.cs] [] Q:=ZJ0 H _ t u Q (Yz _) h1 h2 hQ
def ZIO (R:HM S) {a b:List (List Nat)} (h1:a.length<=9223372036854775807) (h2:b.length<=9223372036854775807) (hQ:Q [pb (dq (a=b))] []):Gives S ZHy [.one (.p (.sl 1 (strs a))),.one (.p (.sl 1 (strs b)))] [] Q:=by
 have e1:(strs a).length=a.length:=by simp [strs]
 have e2:(strs b).length=b.length:=by simp [strs]
 refine .code R.zaEqStrings rfl ?_;simp(disch:=omega)[ZIz];by_cases hl:a.length=b.length
 ·simp(disch:=omega)[hl];refine Lp.rule (fun (j:Nat)=>[(0,.a (.one (.p (.sl 1 (strs a))))),(1,.a (.one (.p (.sl 1 (strs b))))),(5,.a (pi j)),(9999,.objs [])]) (fun j=>j<=a.length/\a.take j=b.take j) (fun j=>a.length-j) (a₀:=0) Zs ⟨Yd _,by simp⟩ ?_;rintro j ⟨k1,k2⟩;by_cases hj:j<a.length
  ·have hjb:j<b.length:=by omega
   have r1:=ZMo (l:=a) (j:=j) Zo;have r2:=ZMo (l:=b) (j:=j) Zo;by_cases he:a[j]=b[j]
   ·simp(disch:=omega)[r1,r2,he];exact RdN.mk (j+1) Zs ⟨hj,ZH4 k2 hj hjb he⟩ Zo
   ·rw [ZDy (ZI6 hj hjb he)] at hQ;simp(disch:=omega)[r1,r2,he];exact hQ
  ·simp(disch:=omega);rw [ZDz (ZIq k2 Zo Zo)] at hQ;exact hQ
 ·simp(disch:=omega)[hl];rw [ZDy fun h=>hl (by rw [h])] at hQ;exact hQ
end Go.Am.Fe
end
section
namespace Go.Am.Fe
variable {S:Nat->Option Fn} {Q:List A->List (List C)->Prop}
attribute [local simp] ZbO if_pos if_neg decide_eq_true decide_eq_false Yi Yj ZgF Ops.callv List.idxOf?_cons
def tyRf (H:HM S) {x:Ty} (h:x.fw) (hQ:Q [pb true] []):Gives S Zcr [.agg x.cs,.agg x.cs] [] Q:=ZEE H h h (by rw [ZDz rfl];exact hQ)
def ZOn (H:HM S) {l:List Ty} (h:Ok Ty.fw l) (hQ:Q [pb true] []):Gives S Za5 [.one (.p (.sl 4 (Ty.encs l))),.one (.p (.sl 4 (Ty.encs l))),.one (.clo Zcr [] [])] [] Q:=by
 rw [Ty.encs_rows];exact ZJp H.slicesEqualFuncLApiTypeLApiTypeApiTypeApiType rfl (Yy h.1 Zd) (fun _=>rfl) (fun x hx Q hQ=>tyRf H (h.2 x hx) hQ) hQ
def ssRf (H:HM S) {l:List (List Nat)} (h:l.length<=9223372036854775807) (hQ:Q [pb true] []):Gives S Zmb [.one (.p (.sl 1 (strs l))),.one (.p (.sl 1 (strs l)))] [] Q:=ZGw H h h (by rw [ZDz rfl];exact hQ)
def Nd.encs_rows: ∀(l:List Nd),Nd.encs l=l.map Nd.row
 | []=>rfl
 | t::l=>by rw [Nd.encs,Nd.encs_rows l,Nd.enc_row];rfl
def Nd.szs_mem: ∀{l:List Nd},∀t∈l,t.sz<=Nd.szs l
 | t::l,u,hu=>by
   rcases List.mem_cons.1 hu with rfl|hu
   · simp [Nd.szs]
   · have:=Nd.szs_mem u hu;simp [Nd.szs];omega
def Nd.sz_l {t:Nd}:Nd.szs t.l<t.sz:=by cases t;simp [Nd.sz,Nd.l];omega
def ZLz (H:HM S): ∀(n:Nat) (x:Nd) (Q:List A->List (List C)->Prop),x.sz<n->x.fw->Q [pb true] []->Gives S ZHq [.agg (x.row.map .p),.agg (x.row.map .p)] [] Q
 | 0,_,_,h,_,_=>absurd h (YH _)
 | n+1,x,Q,hs,hx,hQ=>by
   obtain ⟨h1,h2,h3⟩:=hx.inv;have h4:=Nd.sz_l (t:=x);refine .code H.middleSameNodeq rfl ?_;simp(disch:=omega)[ZH1];refine tyRf H h1 ?_;simp(disch:=omega);refine ZOn H h2 ?_;simp(disch:=omega);rw [Nd.encs_rows];refine ZJp H.slicesEqualFuncLApiNodeLApiNodeApiNodeApiNode rfl (Yy h3.1 Zd) (fun _=>rfl) (fun y hy Q hQ=>ZLz H n y Q (by have:=Nd.szs_mem y hy;omega) (h3.2 y hy) hQ) ?_;simp(disch:=omega);exact hQ
def ndRf (H:HM S) {x:Nd} (hx:x.fw) (hQ:Q [pb true] []):Gives S ZHq [.agg (x.row.map .p),.agg (x.row.map .p)] [] Q:=ZLz H _ x Q (Yz _) hx hQ
def paRf (H:HM S) {x:Pa} (hx:x.ok) (hQ:Q [pb true] []):Gives S ZHI [.agg (x.row.map .p),.agg (x.row.map .p)] [] Q:=by
 refine .code H.middleSameParamq rfl ?_;simp(disch:=omega)[ZHW];refine tyRf H hx ?_;simp(disch:=omega);exact hQ
def reRf (H:HM S) {x:Re} (hx:x.ok) (hQ:Q [pb true] []):Gives S ZHx [.agg (x.row.map .p),.agg (x.row.map .p)] [] Q:=by
 obtain ⟨h1,h2⟩:=hx;refine .code H.middleSameReqq rfl ?_;simp(disch:=omega)[ZHS];refine tyRf H h1 ?_;simp(disch:=omega);refine tyRf H h2 ?_;simp(disch:=omega);exact hQ
def fiRf (H:HM S) {x:Fi} (hx:x.ok) (hQ:Q [pb true] []):Gives S ZHt [.agg (x.row.map .p),.agg (x.row.map .p)] [] Q:=by
 refine .code H.middleSameNominalX1q rfl ?_;simp(disch:=omega)[ZHG];refine tyRf H hx ?_;simp(disch:=omega);exact hQ
def caRf (H:HM S) {x:Ca} (hx:x.ok) (hQ:Q [pb true] []):Gives S ZHs [.agg (x.row.map .p),.agg (x.row.map .p)] [] Q:=by
 refine .code H.middleSameNominalX2q rfl ?_;simp(disch:=omega)[ZHF];refine ZOn H hx ?_;simp(disch:=omega);exact hQ
def ZOC (H:HM S) {x:No} (hx:x.ok) (hQ:Q [pb true] []):Gives S ZHz [.agg (x.row.map .p),.agg (x.row.map .p)] [] Q:=by
 obtain ⟨h1,h2,h3,h4⟩:=hx;refine .code H.middleSameNominalq rfl ?_;simp(disch:=omega)[ZHO];refine ssRf H h1 ?_;simp(disch:=omega);refine ndRf H h4 ?_;simp(disch:=omega);refine ZJp H.slicesEqualFuncLApiFieldLApiFieldApiFieldApiField rfl (Yy h2.1 Zd) (fun _=>rfl) (fun x hx Q hQ=>fiRf H (h2.2 x hx) hQ) ?_;simp(disch:=omega);refine ZJp H.slicesEqualFuncLApiCaseLApiCaseApiCaseApiCase rfl (Yy h3.1 Zd) (fun _=>rfl) (fun x hx Q hQ=>caRf H (h3.2 x hx) hQ) ?_;simp(disch:=omega);exact hQ
def ZOM (H:HM S) {x:As} (hx:x.ok) (hQ:Q [pb true] []):Gives S ZHn [.agg (x.row.map .p),.agg (x.row.map .p)] [] Q:=by
 refine .code H.middleSameProtocolX1q rfl ?_;simp(disch:=omega)[ZHB];refine ssRf H hx ?_;simp(disch:=omega);exact hQ
def ZOE (H:HM S) {x:Me} (hx:x.ok) (hQ:Q [pb true] []):Gives S ZHo [.agg (x.row.map .p),.agg (x.row.map .p)] [] Q:=by
 obtain ⟨h1,h2,h3⟩:=hx;refine .code H.middleSameProtocolX2q rfl ?_;simp(disch:=omega)[ZHC];refine ZJp H.slicesEqualFuncLApiParamLApiParamApiParamApiParam rfl (Yy h1.1 Zd) (fun _=>rfl) (fun x hx Q hQ=>paRf H (h1.2 x hx) hQ) ?_;simp(disch:=omega);refine tyRf H h2 ?_;simp(disch:=omega);refine tyRf H h3 ?_;simp(disch:=omega);exact hQ
def ZOA (H:HM S) {x:Pr} (hx:x.ok) (hQ:Q [pb true] []):Gives S ZHw [.agg (x.row.map .p),.agg (x.row.map .p)] [] Q:=by
 obtain ⟨h1,h2⟩:=hx;refine .code H.middleSameProtocolq rfl ?_;simp(disch:=omega)[ZHK];refine ZJp H.slicesEqualFuncLApiAssocLApiAssocApiAssocApiAssoc rfl (Yy h1.1 Zd) (fun _=>rfl) (fun x hx Q hQ=>ZOM H (h1.2 x hx) hQ) ?_;simp(disch:=omega);refine ZJp H.slicesEqualFuncLApiMethodLApiMethodApiMethodApiMethod rfl (Yy h2.1 Zd) (fun _=>rfl) (fun x hx Q hQ=>ZOE H (h2.2 x hx) hQ) ?_;simp(disch:=omega);exact hQ
def ZOD (H:HM S) {x:Co} (hx:x.ok) (hQ:Q [pb true] []):Gives S ZHL [.agg (x.row.map .p),.agg (x.row.map .p)] [] Q:=by
 obtain ⟨h1,h2,h3,h4,h5⟩:=hx;refine .code H.middleSameConfq rfl ?_;simp(disch:=omega)[ZH0];refine tyRf H h1 ?_;simp(disch:=omega);refine ssRf H h2 ?_;simp(disch:=omega);refine ZJp H.slicesEqualFuncLApiReqLApiReqApiReqApiReq rfl (Yy h3.1 Zd) (fun _=>rfl) (fun x hx Q hQ=>reRf H (h3.2 x hx) hQ) ?_;simp(disch:=omega);refine ZOn H h4 ?_;simp(disch:=omega);refine ssRf H h5 ?_;simp(disch:=omega);exact hQ
def ZNM (H:Has S) (R:HM S) {x y:Re} (hx:x.ok) (hy:y.ok) (hQ:Q [pb (dq (x=y))] []):Gives S ZJi [.agg (x.row.map .p),.agg (y.row.map .p)] [] Q:=by
 refine .code R.zaEqReq rfl ?_;simp(disch:=omega)[ZJY];by_cases e1:x.k=y.k
 ·by_cases e2:x.p=y.p
  ·simp(disch:=omega)[e1,e2];refine ZLl H hx.1 hy.1 ?_;by_cases e3:x.t=y.t
   ·rw [ZDz e3];simp(disch:=omega);refine ZLl H hx.2 hy.2 ?_;simp(disch:=omega);rwa [show dq (x.o=y.o)=dq (x=y) from by
     by_cases e4:x.o=y.o
     ·rw [ZDz e4,ZDz (by cases x;cases y;simp_all)]
     ·rw [ZDy e4,ZDy fun h=>e4 (by rw [h])]]
   ·rw [ZDy fun h=>e3 (by rw [h])] at hQ;rw [ZDy e3];simp(disch:=omega);exact hQ
  ·rw [ZDy fun h=>e2 (by rw [h])] at hQ;simp(disch:=omega)[e1,e2];exact hQ
 ·rw [ZDy fun h=>e1 (by rw [h])] at hQ;simp(disch:=omega)[e1];exact hQ
def ZLN (H:Has S) (R:HM S) {l m:List Re} (hl:Ok Re.ok l) (hm:Ok Re.ok m) (hQ:Q [pb (dq (l=m))] []):Gives S ZIy [.one (.p (.sl 10 (l.map Re.row))),.one (.p (.sl 10 (m.map Re.row)))] [] Q:=by
 have g1:=hl.1;have g2:=hm.1;have e1:(l.map Re.row).length=l.length:=Yh _;have e2:(m.map Re.row).length=m.length:=Yh _;refine .code R.zaEqReqs rfl ?_;simp(disch:=omega)[ZJC];by_cases hlen:l.length=m.length
 ·simp(disch:=omega)[hlen];refine Lp.rule (fun (j:Nat)=>[(0,.a (.one (.p (.sl 10 (l.map Re.row))))),(1,.a (.one (.p (.sl 10 (m.map Re.row))))),(5,.a (pi j)),(9999,.objs [])]) (fun j=>j<=l.length/\l.take j=m.take j) (fun j=>l.length-j) (a₀:=0) Zs ⟨Yd _,by simp⟩ ?_;rintro j ⟨k1,k2⟩;by_cases hj:j<l.length
  ·have hjm:j<m.length:=by omega
   have r1:=ZHk (f:=Re.row) (l:=l) (j:=j) Zo;have r2:=ZHk (f:=Re.row) (l:=m) (j:=j) Zo;simp(disch:=omega)[r1,r2];refine ZNM H R (hl.get hj) (hm.get hjm) ?_;by_cases he:l[j]=m[j]
   ·rw [ZDz he];simp(disch:=omega);exact RdN.mk (j+1) Zs ⟨hj,ZH4 k2 hj hjm he⟩ Zo
   ·rw [ZDy he];simp(disch:=omega);rw [ZDy (ZI6 hj hjm he)] at hQ;exact hQ
  ·simp(disch:=omega);rw [ZDz (ZIq k2 Zo Zo)] at hQ;exact hQ
 ·simp(disch:=omega)[hlen];rw [ZDy fun h=>hlen (by rw [h])] at hQ;exact hQ
def ZOl (H:Has S) {l:List Ty} (hl:Ok Ty.fw l) (hQ:Q [pb true] []):Gives S ZdD [.one (.p (.sl 4 (Ty.encs l))),.one (.p (.sl 4 (Ty.encs l)))] [] Q:=
 ZMF H (n:=Ty.szs l+1) (ZJ0 H _) (Yz _) hl hl (by rw [ZDz rfl];exact hQ)
def ZNr (H:Has S) (R:HM S) {l:List Pa} (hl:Ok Pa.ok l) (hQ:Q [pb true] []):Gives S ZIh [.one (.p (.sl 6 (l.map Pa.row))),.one (.p (.sl 6 (l.map Pa.row)))] [] Q:=by
 have a1:=hl.1;have b1:(l.map Pa.row).length=l.length:=Yh _;refine .code R.zaEqParams rfl ?_;simp(disch:=omega)[ZIM];refine Lp.rule (fun (j:Nat)=>[(0,.a (.one (.p (.sl 6 (l.map Pa.row))))),(1,.a (.one (.p (.sl 6 (l.map Pa.row))))),(5,.a (pi j)),(9999,.objs [])]) (fun j=>j<=l.length) (fun j=>l.length-j) (a₀:=0) Zs (Yd _) ?_;intro j k1;by_cases hj:j<l.length
 ·have r1:=ZHk (f:=Pa.row) (l:=l) (j:=j) Zo;have hq:=hl.get hj;simp(disch:=omega)[r1];refine ZLl H hq hq ?_;rw [ZDz rfl];simp(disch:=omega);exact RdN.mk (j+1) Zs hj Zo
 ·simp(disch:=omega);exact hQ
def ZNC (H:Has S) (R:HM S) {l:List Fi} (hl:Ok Fi.ok l) (hQ:Q [pb true] []):Gives S ZIl [.one (.p (.sl 6 (l.map Fi.row))),.one (.p (.sl 6 (l.map Fi.row)))] [] Q:=by
 have a1:=hl.1;have b1:(l.map Fi.row).length=l.length:=Yh _;refine .code R.zaEqFields rfl ?_;simp(disch:=omega)[ZIL];refine Lp.rule (fun (j:Nat)=>[(0,.a (.one (.p (.sl 6 (l.map Fi.row))))),(1,.a (.one (.p (.sl 6 (l.map Fi.row))))),(5,.a (pi j)),(9999,.objs [])]) (fun j=>j<=l.length) (fun j=>l.length-j) (a₀:=0) Zs (Yd _) ?_;intro j k1;by_cases hj:j<l.length
 ·have r1:=ZHk (f:=Fi.row) (l:=l) (j:=j) Zo;have hq:=hl.get hj;simp(disch:=omega)[r1];refine ZLl H hq hq ?_;rw [ZDz rfl];simp(disch:=omega);exact RdN.mk (j+1) Zs hj Zo
 ·simp(disch:=omega);exact hQ
def ZNs (H:Has S) (R:HM S) {l:List Ca} (hl:Ok Ca.ok l) (hQ:Q [pb true] []):Gives S ZIC [.one (.p (.sl 3 (l.map Ca.row))),.one (.p (.sl 3 (l.map Ca.row)))] [] Q:=by
 have a1:=hl.1;have b1:(l.map Ca.row).length=l.length:=Yh _;refine .code R.zaEqCases rfl ?_;simp(disch:=omega)[ZJb];refine Lp.rule (fun (j:Nat)=>[(0,.a (.one (.p (.sl 3 (l.map Ca.row))))),(1,.a (.one (.p (.sl 3 (l.map Ca.row))))),(5,.a (pi j)),(9999,.objs [])]) (fun j=>j<=l.length) (fun j=>l.length-j) (a₀:=0) Zs (Yd _) ?_;intro j k1;by_cases hj:j<l.length
 ·have r1:=ZHk (f:=Ca.row) (l:=l) (j:=j) Zo;have hq:=hl.get hj;simp(disch:=omega)[r1];refine ZOl H hq ?_;simp(disch:=omega);exact RdN.mk (j+1) Zs hj Zo
 ·simp(disch:=omega);exact hQ
def ZN6 (H:Has S) (R:HM S) {x:Me} (hx:x.ok) (hQ:Q [pb true] []):Gives S ZIk [.agg (x.row.map .p),.agg (x.row.map .p)] [] Q:=by
 obtain ⟨h1,h2,h3⟩:=hx;refine .code R.zaEqMethod rfl ?_;simp(disch:=omega)[ZIK];refine ZNr H R h1 ?_;simp(disch:=omega);refine ZLl H h2 h2 ?_;rw [ZDz rfl];simp(disch:=omega);refine ZLl H h3 h3 ?_;rw [ZDz rfl];simp(disch:=omega);exact hQ
def ZOg (H:Has S) (R:HM S) {x:Co} (hx:x.ok) (hQ:Q [pb true] []):Gives S ZIS [.agg (x.row.map .p),.agg (x.row.map .p)] [] Q:=by
 obtain ⟨h1,h2,h3,h4,h5⟩:=hx;refine .code R.zaEqConf rfl ?_;simp(disch:=omega)[ZJA];refine ZLl H h1 h1 ?_;rw [ZDz rfl];simp(disch:=omega);refine ZIO R h2 h2 ?_;rw [ZDz rfl];simp(disch:=omega);refine ZLN H R h3 h3 ?_;rw [ZDz rfl];simp(disch:=omega);refine ZOl H h4 ?_;simp(disch:=omega);refine ZIO R h5 h5 ?_;rw [ZDz rfl];simp(disch:=omega);exact hQ
def ZN7 (H:Has S) (R:HM S) {x:Pr} (hx:x.ok) (hQ:Q [pb true] []):Gives S ZH5 [.agg (x.row.map .p),.agg (x.row.map .p)] [] Q:=by
 obtain ⟨h1,h2⟩:=hx;have a1:=h1.1;have a2:=h2.1;have b1:(x.as.map As.row).length=x.as.length:=Yh _;have b2:(x.ms.map Me.row).length=x.ms.length:=Yh _;refine .code R.zaEqProtocol rfl ?_;simp(disch:=omega)[ZIp];refine Lp.rule (fun (j:Nat)=>[(2,.a (.one (.ref ⟨true,10002,0⟩))),(3,.a (.one (.ref ⟨true,10003,0⟩))),(5,.a (pi j)),(9999,.objs []),(10002,.a (.agg (x.row.map .p))),(10003,.a (.agg (x.row.map .p)))]) (fun j=>j<=x.as.length) (fun j=>x.as.length-j) (a₀:=0) Zs (Yd _) ?_;intro j k1;by_cases hj:j<x.as.length
 ·have r1:=ZHk (f:=As.row) (l:=x.as) (j:=j) Zo;have hq:=h1.get hj;simp(disch:=omega)[r1];refine ZIO R hq hq ?_;rw [ZDz rfl];simp(disch:=omega);exact RdN.mk (j+1) Zs hj Zo
 simp(disch:=omega);refine Lp.rule (fun (j:Nat)=>[(2,.a (.one (.ref ⟨true,10002,0⟩))),(3,.a (.one (.ref ⟨true,10003,0⟩))),(6,.a (pi j)),(9999,.objs []),(10002,.a (.agg (x.row.map .p))),(10003,.a (.agg (x.row.map .p)))]) (fun j=>j<=x.ms.length) (fun j=>x.ms.length-j) (a₀:=0) Zs (Yd _) ?_;clear hj k1 j;intro j k1;by_cases hj:j<x.ms.length
 ·have r1:=ZHk (f:=Me.row) (l:=x.ms) (j:=j) Zo;simp(disch:=omega)[r1];refine ZN6 H R (h2.get hj) ?_;simp(disch:=omega);exact RdN.mk (j+1) Zs hj Zo
 ·simp(disch:=omega);exact hQ
def ZMh (H:Has S) {n:Nat} (ih: ∀(x:Nd) (Q:List A->List (List C)->Prop),x.sz<n->x.fw->Q [pb true] []->Gives S ZgL [.agg (x.row.map .p),.agg (x.row.map .p),pb true] [] Q) {l:List Nd} (hs:Nd.szs l<n) (hl:Ok Nd.fw l) (hQ:Q [pb true] []):
  Gives S Zhb [.one (.p (.sl 10 (Nd.encs l))),.one (.p (.sl 10 (Nd.encs l))),pb true] [] Q:=by
 have a1:=hl.1;have b1:(l.map Nd.row).length=l.length:=Yh _;rw [Nd.encs_rows];refine .code H.ZuP rfl ?_;simp(disch:=omega)[ZjJ];refine Lp.rule (fun (j:Nat)=>[(0,.a (.one (.p (.sl 10 (l.map Nd.row))))),(1,.a (.one (.p (.sl 10 (l.map Nd.row))))),(2,.a (pb true)),(7,.a (pi j)),(9999,.objs [])]) (fun j=>j<=l.length) (fun j=>l.length-j) (a₀:=0) Zs (Yd _) ?_;intro j k1;by_cases hj:j<l.length
 ·have r1:=ZHk (f:=Nd.row) (l:=l) (j:=j) Zo;simp(disch:=omega)[r1];refine ih _ _ (by have:=Nd.szs_mem _ (Yl hj);omega) (hl.get hj) ?_;simp(disch:=omega);exact RdN.mk (j+1) Zs hj Zo
 ·simp(disch:=omega);exact hQ
def ZKg (H:Has S): ∀(n:Nat) (x:Nd) (Q:List A->List (List C)->Prop),x.sz<n->x.fw->Q [pb true] []->Gives S ZgL [.agg (x.row.map .p),.agg (x.row.map .p),pb true] [] Q
 | 0,_,_,h,_,_=>absurd h (YH _)
 | n+1,x,Q,hs,hx,hQ=>by
   obtain ⟨h1,h2,h3⟩:=hx.inv;have h4:=Nd.sz_l (t:=x);refine .code H.Zw7 rfl ?_;simp(disch:=omega)[ZiB];refine ZLl H h1 h1 ?_;rw [ZDz rfl];simp(disch:=omega);refine ZOl H h2 ?_;simp(disch:=omega);refine ZMh H (ZKg H n) Zo h3 ?_;simp(disch:=omega);exact hQ
def ZOf (H:Has S) (R:HM S) {x:No} (hx:x.ok) (hQ:Q [pb true] []):Gives S ZIb [.agg (x.row.map .p),.agg (x.row.map .p),pb true] [] Q:=by
 obtain ⟨h1,h2,h3,h4⟩:=hx;refine .code R.zaEqNominal rfl ?_;simp(disch:=omega)[ZIv];refine ZIO R h1 h1 ?_;rw [ZDz rfl];simp(disch:=omega);refine ZNC H R h2 ?_;simp(disch:=omega);refine ZNs H R h3 ?_;simp(disch:=omega);refine ZKg H _ x.d _ (Yz _) h4 ?_;simp(disch:=omega);exact hQ
structure Mo where
 ns:List No
 ps:List Pr
 cs:List Co
 fs:List (List P)
abbrev Mo.cs' (m:Mo):List C:=[.p (.sl 17 (m.ns.map No.row)),.p (.sl 3 (m.ps.map Pr.row)),.p (.sl 9 (m.cs.map Co.row)),.p (.sl 22 m.fs)]
structure Mo.ok (m:Mo):Prop where
 n:Ok No.ok m.ns
 p:Ok Pr.ok m.ps
 c:Ok Co.ok m.cs
def ZLF (H:Has S) (R:HM S) {m:Mo} (hm:m.ok) (hQ:Q [pb true] []):Gives S ZIi [.agg m.cs',.agg m.cs',pb true] [] Q:=by
 have a1:=hm.n.1;have a2:=hm.p.1;have a3:=hm.c.1;have b1:(m.ns.map No.row).length=m.ns.length:=Yh _;have b2:(m.ps.map Pr.row).length=m.ps.length:=Yh _;have b3:(m.cs.map Co.row).length=m.cs.length:=Yh _;refine .code R.zaEqTables rfl ?_;simp(disch:=omega)[ZII];refine Lp.rule (fun (j:Nat)=>[(2,.a (pb true)),(3,.a (.one (.ref ⟨true,10003,0⟩))),(4,.a (.one (.ref ⟨true,10004,0⟩))),(7,.a (pi j)),(9999,.objs []),(10003,.a (.agg m.cs')),(10004,.a (.agg m.cs'))]) (fun j=>j<=m.ns.length) (fun j=>m.ns.length-j) (a₀:=0) Zs (Yd _) ?_;intro j k1;by_cases hj:j<m.ns.length
 ·have r1:=ZHk (f:=No.row) (l:=m.ns) (j:=j) Zo;simp(disch:=omega)[r1];refine ZOf H R (hm.n.get hj) ?_;simp(disch:=omega);exact RdN.mk (j+1) Zs hj Zo
 simp(disch:=omega);refine Lp.rule (fun (j:Nat)=>[(3,.a (.one (.ref ⟨true,10003,0⟩))),(4,.a (.one (.ref ⟨true,10004,0⟩))),(8,.a (pi j)),(9999,.objs []),(10003,.a (.agg m.cs')),(10004,.a (.agg m.cs'))]) (fun j=>j<=m.ps.length) (fun j=>m.ps.length-j) (a₀:=0) Zs (Yd _) ?_;clear hj k1 j;intro j k1;by_cases hj:j<m.ps.length
 ·have r1:=ZHk (f:=Pr.row) (l:=m.ps) (j:=j) Zo;simp(disch:=omega)[r1];refine ZN7 H R (hm.p.get hj) ?_;simp(disch:=omega);exact RdN.mk (j+1) Zs hj Zo
 simp(disch:=omega);refine Lp.rule (fun (j:Nat)=>[(3,.a (.one (.ref ⟨true,10003,0⟩))),(4,.a (.one (.ref ⟨true,10004,0⟩))),(9,.a (pi j)),(9999,.objs []),(10003,.a (.agg m.cs')),(10004,.a (.agg m.cs'))]) (fun j=>j<=m.cs.length) (fun j=>m.cs.length-j) (a₀:=0) Zs (Yd _) ?_;clear hj k1 j;intro j k1;by_cases hj:j<m.cs.length
 ·have r1:=ZHk (f:=Co.row) (l:=m.cs) (j:=j) Zo;simp(disch:=omega)[r1];refine ZOg H R (hm.c.get hj) ?_;simp(disch:=omega);exact RdN.mk (j+1) Zs hj Zo
 ·simp(disch:=omega);exact hQ
end Go.Am.Fe
end
section
namespace Go.Am.Fe
theorem RowsOf.lift {α:Type} {R:List P->Prop} {row:α->List P} {p:α->Prop} {l:List (List P)} (h:RowsOf R l) (hR: ∀r,R r-> ∃x,row x=r/\p x): ∃L:List α,L.map row=l/\Ok p L:=by
 obtain ⟨h1,h2⟩:=h
 suffices∃L:List α,L.map row=l/\ ∀x∈L,p x by
   obtain ⟨L,e,hp⟩:=this;exact ⟨L,e,by rw [<-e,Yh] at h1;omega,hp⟩
 clear h1
 induction l with
 | nil=>exact ⟨[],rfl,fun _ h=>nomatch h⟩
 | cons r l ih=>
   obtain ⟨L,e,hp⟩:=ih fun x hx=>h2 x (Yk _ hx);obtain ⟨x,ex,hx⟩:=hR r (h2 r Yr);exact ⟨x::L,by simp [e,ex],fun y hy=>(List.mem_cons.1 hy).elim (fun h=>h ▸ hx) (hp y)⟩
def FTy.lift {m:Nat} {k n:Int} {s:List Nat} {a:List (List P)} (h:FTy m [.int .i64 k,.str s,.int .i64 n,.sl 4 a]): ∃t:Ty,t.fw/\t.k=k/\t.s=s/\t.n=n/\Ty.encs t.a=a:=by
 obtain ⟨⟨k',s',n',a'⟩,e,h1,_⟩:=h;simp only [Ty.enc,Yf,P.int.injEq,P.str.injEq,P.sl.injEq,true_and,and_true] at e;obtain ⟨rfl,rfl,rfl,rfl⟩:=e;exact ⟨_,Ty.fit_fw _ h1,rfl,rfl,rfl,rfl⟩
def FTys.lift {m:Nat} {l:List (List P)} (h:FTys m l): ∃L:List Ty,Ty.encs L=l/\Ok Ty.fw L:=by
 obtain ⟨L,e,h1,h2,_⟩:=h;exact ⟨L,e,Yy h1 Zd,Ty.fws_mem (Ty.fits_fw _ h2)⟩
def FNd.lift {mm:Nat} {o n k m z:Int} {s u:List Nat} {a t l:List (List P)} (h:FNd mm [.int .i64 o,.str s,.int .i64 n,.int .i64 k,.str u,.int .i64 m,.sl 4 a,.sl 4 t,.sl 10 l,.int .i64 z]):
  ∃x:Nd,x.fw/\x.row=[.int .i64 o,.str s,.int .i64 n,.int .i64 k,.str u,.int .i64 m,.sl 4 a,.sl 4 t,.sl 10 l,.int .i64 z]:=by
 obtain ⟨x,e,h1,_⟩:=h;exact ⟨x,Nd.fit_fw _ h1,by rw [<-e,Nd.enc_row]⟩
def PaR.lift (r:List P) (h:PaR r): ∃x:Pa,x.row=r/\x.ok:=by
 obtain ⟨m,s,o,k,n,u,a,rfl,h1,h2⟩:=h;obtain ⟨t,ht,rfl,rfl,rfl,rfl⟩:=h2.lift;exact ⟨⟨s,o,t⟩,rfl,ht⟩
def MeR.lift (r:List P) (h:MeR r): ∃x:Me,x.row=r/\x.ok:=by
 obtain ⟨m1,m2,s,ps,k1,n1,k2,n2,s1,s2,a1,a2,rfl,h1,h2,h3,h4⟩:=h;obtain ⟨L,rfl,hL⟩:=h2.lift PaR.lift;obtain ⟨t,ht,rfl,rfl,rfl,rfl⟩:=h3.lift;obtain ⟨v,hv,rfl,rfl,rfl,rfl⟩:=h4.lift;exact ⟨⟨s,L,t,v⟩,rfl,hL,ht,hv⟩
def AsR.lift (r:List P) (h:AsR r): ∃x:As,x.row=r/\x.ok:=by
 obtain ⟨s,bs,rfl,h1,h2⟩:=h;exact ⟨⟨s,bs⟩,rfl,Yy h2.1 Zd⟩
def PrR.lift (r:List P) (h:PrR r): ∃x:Pr,x.row=r/\x.ok:=by
 obtain ⟨s,as,ms,rfl,h1,h2,h3⟩:=h;obtain ⟨L,rfl,hL⟩:=h2.lift AsR.lift;obtain ⟨M,rfl,hM⟩:=h3.lift MeR.lift;exact ⟨⟨s,L,M⟩,rfl,hL,hM⟩
def FiR.lift (r:List P) (h:FiR r): ∃x:Fi,x.row=r/\x.ok:=by
 obtain ⟨m,s,k,n,u,a,b,rfl,h1,h2⟩:=h;obtain ⟨t,ht,rfl,rfl,rfl,rfl⟩:=h2.lift;exact ⟨⟨s,t,b⟩,rfl,ht⟩
def CaR.lift (r:List P) (h:CaR r): ∃x:Ca,x.row=r/\x.ok:=by
 obtain ⟨m,s,ts,b,rfl,h1,h2⟩:=h;obtain ⟨L,rfl,hL⟩:=h2.lift;exact ⟨⟨s,L,b⟩,rfl,hL⟩
def NoR.lift (r:List P) (h:NoR r): ∃x:No,x.row=r/\x.ok:=by
 obtain ⟨mm,s,kd,gs,b1,b2,fs,cs,o,n,k,m,z,s1,u,a,t,l,rfl,h1,h2,h3,h4,h5⟩:=h;obtain ⟨L,rfl,hL⟩:=h3.lift FiR.lift;obtain ⟨M,rfl,hM⟩:=h4.lift CaR.lift;obtain ⟨x,hx,ex⟩:=h5.lift;refine ⟨⟨s,kd,gs,b1,b2,L,M,x⟩,?_,Yy h2.1 Zd,hL,hM,hx⟩;simp only [Yf,P.int.injEq,P.str.injEq,P.sl.injEq,true_and,and_true] at ex⊢;exact ex
def ReR.lift (r:List P) (h:ReR r): ∃x:Re,x.row=r/\x.ok:=by
 obtain ⟨m1,m2,o,s,k1,n1,k2,n2,s1,s2,a1,a2,rfl,h1,h3,h4⟩:=h;obtain ⟨t,ht,rfl,rfl,rfl,rfl⟩:=h3.lift;obtain ⟨v,hv,rfl,rfl,rfl,rfl⟩:=h4.lift;exact ⟨⟨o,t,s,v⟩,rfl,ht,hv⟩
def CoR.lift (r:List P) (h:CoR r): ∃x:Co,x.row=r/\x.ok:=by
 obtain ⟨m1,m2,s,k,n,u,a,gs,qs,ts,fs,rfl,h1,h2,h3,h4,h5,h6⟩:=h;obtain ⟨t,ht,rfl,rfl,rfl,rfl⟩:=h2.lift;obtain ⟨L,rfl,hL⟩:=h4.lift ReR.lift;obtain ⟨M,rfl,hM⟩:=h5.lift;exact ⟨⟨s,t,gs,L,M,fs⟩,rfl,ht,Yy h3.1 Zd,hL,hM,Yy h6.1 Zd⟩
def ZFr {noms pro cfs fns:List (List P)} (h1:RowsOf NoR noms) (h2:RowsOf PrR pro) (h3:RowsOf CoR cfs): ∃m:Mo,m.ok/\m.ns.map No.row=noms/\m.ps.map Pr.row=pro/\m.cs.map Co.row=cfs/\m.fs=fns:=by
 obtain ⟨a,ea,ha⟩:=h1.lift NoR.lift;obtain ⟨b,eb,hb⟩:=h2.lift PrR.lift;obtain ⟨c,ec,hc⟩:=h3.lift CoR.lift;exact ⟨⟨a,b,c,fns⟩,⟨ha,hb,hc⟩,ea,eb,ec,rfl⟩
end Go.Am.Fe
end
section
namespace Go.Am.Fe
variable {S:Nat->Option Fn} {Q:List A->List (List C)->Prop}
attribute [local simp] ZbO if_pos if_neg decide_eq_true decide_eq_false Yi Yj ZgF Ops.callv List.idxOf?_cons
abbrev Mo.pc (m:Mo) (b:List (List P)):List C:=[.p (.sl 17 (m.ns.map No.row)),.p (.sl 3 (m.ps.map Pr.row)),.p (.sl 9 (m.cs.map Co.row)),.p (.sl 14 b)]
def ZKq (M:HM S) {m:Mo} {b:List (List P)} (hQ:Q [.agg ({m with fs:=[]}:Mo).cs'] []):Gives S ZIY [.agg (m.pc b)] [] Q:=by
 refine .code M.zmModule rfl ?_;simp(disch:=omega)[ZJu];exact hQ
def ZLn (M:HM S) {m:Mo} (hQ:Q [.agg (m.pc [])] []):Gives S ZIt [.agg m.cs'] [] Q:=by
 refine .code M.zmTables rfl ?_;simp(disch:=omega)[ZJB];exact hQ
def Mo.ok.fs {m:Mo} (h:m.ok) {f:List (List P)}:({m with fs:=f}:Mo).ok:=⟨h.n,h.p,h.c⟩
end Go.Am.Fe
end
