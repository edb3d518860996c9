/- Part. -/
import Derived.Test.YtcdjoaepciegnaaGreatDoorUai
import Derived.Test.YtcdjoaepciegnaaGreatDoorUab
set_option maxRecDepth 999999
set_option maxHeartbeats 0
set_option linter.all false
section
namespace Go.Am.Fe
open Go.Proofs
variable {S:Nat->Option Fn} {Q:List A->List (List C)->Prop}
attribute [local simp] ZbO if_pos if_neg decide_eq_true decide_eq_false Yi Yj ZgF Ops.callv List.idxOf?_cons
def ZGI {l:List Int} {j:Nat} (h:j<l.length):(ZaX l)[j]? =some [.int .i64 l[j]]:=by simp [ZaX,h]
def ZIZ {F:ZaQ} {rows:List (List P)} {k:Nat} (h:k<=rows.length):ZaI F (.slice 1 false true true) [.a (.one (.p (.sl 1 rows))),.a (pi k),.a (pi k)]=some [.a (.one (.tip 1 (rows.take k)))]:=by
 have e1:ZbX false true rows.length [.a (pi k),.a (pi k)]=some (0,k,[.a (pi k)]):=by
  simp(disch:=omega)[ZbX,Zme,h]
 show Zh5 1 false true true (.a (.one (.p (.sl 1 rows)))::[.a (pi k),.a (pi k)])=_
 unfold Zh5
 simp only [C.rows,e1,if_true]
 rw [if_pos ⟨trivial,Int.le_refl _,by omega⟩,List.drop_zero]
def ZEj (h0:S ZDQ=some (.code ZEc)) {l:List Int} (hl:l.length<=2000) (hQ:Q [.one (.p (.sl 1 (ZaX (ZDF l))))] []):Gives S ZDQ [.one (.p (.sl 1 (ZaX l)))] [] Q:=by
 refine .code h0 rfl ?_
 simp(disch:=omega)[ZEc]
 refine Lp.rule (fun (j:Nat)=>[(0,.a (.one (.p (.sl 1 (ZaX l))))),(3,.a (.one (.tip 1 (ZaX (ZDF (l.take j)))))),(4,.a (pi j)),(9999,.objs [])]) (fun j=>j<=l.length) (fun j=>l.length-j) (a₀:=0) (by simp [ZDF,ZaX]) (Yd _) ?_
 intro j k1
 have hlen:(ZDF (l.take j)).length<=2000:=by
  have:=ZDV (l.take j)
  simp at this
  omega
 by_cases hj:j<l.length
 ·have ht:l.take (j+1)=l.take j++[l[j]]:=by rw [List.take_succ_eq_append_getElem hj]
  obtain ⟨out,ho⟩: ∃out,out=ZDF (l.take j):=⟨_,rfl⟩
  rw [<-ho] at hlen⊢
  have hn:ZDF (l.take (j+1))=insN l[j] out:=by rw [ht,ZF0,ho]
  have e0:=ZGI (l:=l) (j:=j) hj
  simp(disch:=omega)
  refine Lp.rule (fun (k:Nat)=>[(0,.a (.one (.p (.sl 1 (ZaX l))))),(3,.a (.one (.tip 1 (ZaX out)))),(4,.a (pi j)),(5,.a (pi k)),(9999,.objs [])]) (fun k=>k<=out.length/\ ∀i (h:i<out.length),i<k->out[i]<l[j]) (fun k=>out.length-k) (a₀:=0) Zs ⟨Yd _,fun i _ h=>by omega⟩ ?_
  rintro k ⟨k2,k3⟩
  have ht2:(ZaX out).take out.length=ZaX out:=Yg Zs
  have hs:=ZIZ (F:=Zch) (rows:=ZaX out) (k:=k) (by simpa using k2)
  by_cases hk:k<out.length
  ·have e1:=ZGI (l:=out) (j:=k) hk
   by_cases hlt:out[k]<l[j]
   ·simp(disch:=omega)[e0,e1,hlt]
    exact RdN.mk (k+1) rfl ⟨hk,fun i hi hik=>by
     rcases Yt i k with h|h
     ·exact k3 i hi h
     ·obtain rfl:i=k:=by omega
      exact hlt⟩ Zo
   ·by_cases heq:out[k]=l[j]
    ·have hi:=ZF4 hk k3 heq
     simp(disch:=omega)[e0,e1,heq]
     exact RdN.mk (j+1) (by rw [hn,hi];simp) hj Zo
    ·have hi:=ZH6 (x:=l[j]) k2 k3 (fun h=>by omega)
     simp(disch:=omega)[e0,e1,hlt,heq,hs,ht2]
     exact RdN.mk (j+1) (by rw [hn,hi];simp [ZaX]) hj Zo
  ·have hi:=ZH6 (x:=l[j]) k2 k3 (fun h=>absurd h hk)
   simp(disch:=omega)[e0,hs,ht2]
   exact RdN.mk (j+1) (by rw [hn,hi];simp [ZaX]) hj Zo
 ·have e:l.take j=l:=Yg Zo
  rw [e]
  simp(disch:=omega)
  exact hQ
def ZEK (l:List Op):List Int:=(l.filter fun o=>decide (o.k=2)).map Op.n
def ZFj (l:List Op):List Int:=l.map Op.n
def ZGd {l:List Op} {o:Op}:ZEK (l++[o])=if o.k=2 then ZEK l++[o.n] else ZEK l:=by
 unfold ZEK
 rw [List.filter_append,YB]
 by_cases h:o.k=2<;>simp [h]
def ZF3 {l:List Op} {o:Op}:ZFj (l++[o])=ZFj l++[o.n]:=by simp [ZFj]
def ZFL (l:List Op):(ZEK l).length<=l.length:=by
 unfold ZEK
 rw [Yh]
 exact List.length_filter_le _ _
def ZGt (U:HU S) {x:In} (hl:x.a.length<=2000) (hQ:Q [.one (.p (.sl 1 (ZaX (ZDF (ZEK x.a)))))] []):Gives S ZEa [.agg (x.row.map .p)] [] Q:=by
 have b1:(x.a.map Op.row).length=x.a.length:=Yh _
 refine .code U.zmConsumes rfl ?_
 simp(disch:=omega)[ZEt]
 refine Lp.rule (fun (j:Nat)=>[(1,.a (.one (.ref ⟨true,10001,0⟩))),(3,.a (.one (.tip 1 (ZaX (ZEK (x.a.take j)))))),(4,.a (pi j)),(9999,.objs []),(10001,.a (.agg (x.row.map .p)))]) (fun j=>j<=x.a.length) (fun j=>x.a.length-j) (a₀:=0) (by simp [ZEK,ZaX]) (Yd _) ?_
 intro j k1
 have hlen:(ZEK (x.a.take j)).length<=2000:=by
  have:=ZFL (x.a.take j)
  simp at this
  omega
 by_cases hj:j<x.a.length
 ·have ht:x.a.take (j+1)=x.a.take j++[x.a[j]]:=by rw [List.take_succ_eq_append_getElem hj]
  have r1:=ZFk (f:=Op.row) (l:=x.a) (j:=j) Zo
  have hn:=ZGd (l:=x.a.take j) (o:=x.a[j])
  rw [<-ht] at hn
  by_cases hc:x.a[j].k=2
  ·rw [if_pos hc] at hn
   simp(disch:=omega)[r1,hc]
   exact RdN.mk (j+1) (by rw [hn];simp [ZaX]) hj Zo
  ·rw [if_neg hc] at hn
   simp(disch:=omega)[r1,hc]
   exact RdN.mk (j+1) (by rw [hn];simp) hj Zo
 ·have e:x.a.take j=x.a:=Yg Zo
  rw [e] at hlen⊢
  simp(disch:=omega)
  refine ZEj U.zmNumbersq hlen ?_
  simp(disch:=omega)
  exact hQ
def ZI0 (U:HU S) {x:In} (hl:x.a.length<=2000) (hQ:Q [.one (.p (.sl 1 (ZaX (ZDF (ZFj x.a)))))] []):Gives S ZFF [.agg (x.row.map .p)] [] Q:=by
 have b1:(x.a.map Op.row).length=x.a.length:=Yh _
 refine .code U.zmUses rfl ?_
 simp(disch:=omega)[ZGC]
 refine Lp.rule (fun (j:Nat)=>[(1,.a (.one (.ref ⟨true,10001,0⟩))),(3,.a (.one (.tip 1 (ZaX (ZFj (x.a.take j)))))),(4,.a (pi j)),(9999,.objs []),(10001,.a (.agg (x.row.map .p)))]) (fun j=>j<=x.a.length) (fun j=>x.a.length-j) (a₀:=0) (by simp [ZFj,ZaX]) (Yd _) ?_
 intro j k1
 have hlen:(ZFj (x.a.take j)).length<=2000:=by
  simp [ZFj]
  omega
 by_cases hj:j<x.a.length
 ·have ht:x.a.take (j+1)=x.a.take j++[x.a[j]]:=by rw [List.take_succ_eq_append_getElem hj]
  have r1:=ZFk (f:=Op.row) (l:=x.a) (j:=j) Zo
  have hn:=ZF3 (l:=x.a.take j) (o:=x.a[j])
  rw [<-ht] at hn
  simp(disch:=omega)[r1]
  exact RdN.mk (j+1) (by rw [hn];simp [ZaX]) hj Zo
 ·have e:x.a.take j=x.a:=Yg Zo
  rw [e] at hlen⊢
  simp(disch:=omega)
  refine ZEj U.zmNumbersq hlen ?_
  simp(disch:=omega)
  exact hQ
def ZFA (U:HU S) {l:List Int} (hl:l.length<=2000) (hQ:Q [pb true] []):Gives S ZD1 [.one (.p (.sl 1 (ZaX l))),.one (.p (.sl 1 (ZaX l)))] [] Q:=by
 refine .code U.zaEqInts rfl ?_
 simp(disch:=omega)[ZE8]
 refine Lp.rule (fun (j:Nat)=>[(0,.a (.one (.p (.sl 1 (ZaX l))))),(1,.a (.one (.p (.sl 1 (ZaX l))))),(5,.a (pi j)),(9999,.objs [])]) (fun j=>j<=l.length) (fun j=>l.length-j) (a₀:=0) Zs (Yd _) ?_
 intro j k1
 by_cases hj:j<l.length
 ·have e0:=ZGI (l:=l) (j:=j) hj
  simp(disch:=omega)[e0]
  exact RdN.mk (j+1) Zs hj Zo
 ·simp(disch:=omega)
  exact hQ
def ZEX {κ s n:Nat}:C.mapR (R.down (some 0) [κ]) (.own ⟨true,κ,0⟩ s n)=some (.own ⟨false,0,0⟩ s n):=by simp [C.mapR,R.down,List.idxOf?_cons]
def ZG5 {κ s n:Nat}:C.mapR (R.up (some 0) [κ]) (.own ⟨false,0,0⟩ s n)=some (.own ⟨true,κ,0⟩ s n):=by simp [C.mapR,R.up]
def ZDT {φ:R->Option R}: ∀{l:List Int},Zl9 φ (ZmH l)=some (ZmH l)
 | []=>rfl
 | x::l=>by
   have:=ZDT (φ:=φ) (l:=l)
   unfold ZmH at this⊢
   simp [C.mapR,this]
def ZEC {l:List Int}:List.map C.lone (ZmH l)=ZmH l:=by rw [ZmH,YK];exact YC fun _ _=>rfl
def ZFP {k κ:Nat} {e:Env} {l r:List Int}:Zqs k 0 κ 1 e (.a (.one (.own ⟨true,κ,0⟩ 1 l.length))) (.a (.agg (ZmH (l++r))))=(k,.a (.one (.uniq 1 (ZaX l))))::(κ,.undef)::e:=by
 have h:(ZmH (l++r)).take l.length=ZmH l:=by simp [ZmH]
 rw [Zqk Zs,Nat.mul_one,h,Zto,Zn2,Zth]
def ZGu (hM:S ZDC=some (.code ZDM)) (hO: ∀(l:List Int) (Q:List A->List (List C)->Prop),l.length<=2000->Q [.one (.own ⟨false,0,0⟩ 1 (once l).length)] [ZmH (once l++List.replicate (l.length-(once l).length) 0)]->Gives S ZDz [.one (.own ⟨false,0,0⟩ 1 l.length)] [ZmH l] Q)
  {x:In} (h0:x.a≠[]) (hl:x.a.length<=2000) (hQ:Q [.one (.p (.sl 1 (ZaX (once (ZFj x.a)))))] []):Gives S ZDC [.agg (x.row.map .p)] [] Q:=by
 have b1:(x.a.map Op.row).length=x.a.length:=Yh _
 have hpos:0<x.a.length:=List.length_pos_iff.2 h0
 refine .code hM rfl ?_
 simp(disch:=omega)[ZDM]
 refine Lp.rule (fun (j:Nat)=>[(3,.a (.one (.uniq 1 (ZaX (ZFj (x.a.take j)))))),(7,.a (.one (.p (.sl 3 (x.a.map Op.row))))),(8,.a (pi x.a.length)),(9,.a (pi j)),(9999,.objs [])]) (fun j=>j<=x.a.length) (fun j=>x.a.length-j) (a₀:=0) (by simp [ZFj,ZaX]) (Yd _) ?_
 intro j k1
 have hlen:(ZFj (x.a.take j)).length<=2000:=by
  simp [ZFj]
  omega
 by_cases hj:j<x.a.length
 ·have ht:x.a.take (j+1)=x.a.take j++[x.a[j]]:=by rw [List.take_succ_eq_append_getElem hj]
  have r1:=ZFk (f:=Op.row) (l:=x.a) (j:=j) Zo
  have hn:=ZF3 (l:=x.a.take j) (o:=x.a[j])
  rw [<-ht] at hn
  simp(disch:=omega)[r1]
  exact RdN.mk (j+1) (by rw [hn];simp [ZaX]) hj Zo
 ·have e:x.a.take j=x.a:=Yg Zo
  rw [e] at hlen⊢
  have hu:(ZFj x.a).length=x.a.length:=by simp [ZFj]
  simp(disch:=omega)[Zf8,ZEX,ZDT,ZEC]
  refine hO _ _ hlen ?_
  simp(disch:=omega)[ZG5,ZDT,ZFP]
  exact hQ
def ZGJ (hM:S ZDC=some (.code ZDP)) (hO: ∀Q:List A->List (List C)->Prop,Q [.one (.p (.sl 1 []))] []->Gives S ZDz [.one (.p (.sl 1 []))] [] Q)
  {x:In} (h0:x.a=[]) (hQ:Q [.one (.p (.sl 1 []))] []):Gives S ZDC [.agg (x.row.map .p)] [] Q:=by
 have b1:(x.a.map Op.row)=[]:=by rw [h0];rfl
 refine .code hM rfl ?_
 simp(disch:=omega)[ZDP,b1]
 refine Lp.rule (fun (j:Nat)=>[(3,.a (.one (.tip 1 []))),(7,.a (.one (.p (.sl 3 [])))),(8,.a (pi 0)),(9,.a (pi 0)),(9999,.objs [])]) (fun j=>True) (fun j=>0) (a₀:=0) Zs trivial ?_
 intro j k1
 simp(disch:=omega)
 refine hO _ ?_
 simp(disch:=omega)
 exact hQ
def ZFa (hM:S ZDy=some (.code ZDB)) (hO: ∀(l:List Int) (Q:List A->List (List C)->Prop),l.length<=2000->Q [.one (.own ⟨false,0,0⟩ 1 (once l).length)] [ZmH (once l++List.replicate (l.length-(once l).length) 0)]->Gives S ZDz [.one (.own ⟨false,0,0⟩ 1 l.length)] [ZmH l] Q)
  {x:In} (h0:ZEK x.a≠[]) (hl:x.a.length<=2000) (hQ:Q [.one (.p (.sl 1 (ZaX (once (ZEK x.a)))))] []):Gives S ZDy [.agg (x.row.map .p)] [] Q:=by
 have b1:(x.a.map Op.row).length=x.a.length:=Yh _
 have hpos:0<(ZEK x.a).length:=List.length_pos_iff.2 h0
 refine .code hM rfl ?_
 simp(disch:=omega)[ZDB]
 refine Lp.rule (fun (j:Nat)=>[(3,.a (.one (.uniq 1 (ZaX (ZEK (x.a.take j)))))),(7,.a (.one (.p (.sl 3 (x.a.map Op.row))))),(8,.a (pi x.a.length)),(9,.a (pi j)),(9999,.objs [])]) (fun j=>j<=x.a.length) (fun j=>x.a.length-j) (a₀:=0) (by simp [ZEK,ZaX]) (Yd _) ?_
 intro j k1
 have hlen:(ZEK (x.a.take j)).length<=2000:=by
  have:=ZFL (x.a.take j)
  simp at this
  omega
 by_cases hj:j<x.a.length
 ·have ht:x.a.take (j+1)=x.a.take j++[x.a[j]]:=by rw [List.take_succ_eq_append_getElem hj]
  have r1:=ZFk (f:=Op.row) (l:=x.a) (j:=j) Zo
  have hn:=ZGd (l:=x.a.take j) (o:=x.a[j])
  rw [<-ht] at hn
  by_cases hc:x.a[j].k=2
  ·rw [if_pos hc] at hn
   simp(disch:=omega)[r1,hc]
   exact RdN.mk (j+1) (by rw [hn];simp [ZaX]) hj Zo
  ·rw [if_neg hc] at hn
   simp(disch:=omega)[r1,hc]
   exact RdN.mk (j+1) (by rw [hn];simp) hj Zo
 ·have e:x.a.take j=x.a:=Yg Zo
  rw [e] at hlen⊢
  simp(disch:=omega)[Zf8,ZEX,ZDT,ZEC]
  refine hO _ _ hlen ?_
  simp(disch:=omega)[ZG5,ZDT,ZFP]
  exact hQ
def ZH8 {l:List Op} (h:ZEK l=[]): ∀o∈l,¬o.k=2:=fun o ho hk=>by
 have:o.n∈ZEK l:=List.mem_map.2 ⟨o,List.mem_filter.2 ⟨ho,by simp [hk]⟩,rfl⟩
 rw [h] at this
 cases this
def ZE5 (hM:S ZDy=some (.code ZDD)) (hO: ∀Q:List A->List (List C)->Prop,Q [.one (.p (.sl 1 []))] []->Gives S ZDz [.one (.p (.sl 1 []))] [] Q)
  {x:In} (h0:ZEK x.a=[]) (hl:x.a.length<=2000) (hQ:Q [.one (.p (.sl 1 []))] []):Gives S ZDy [.agg (x.row.map .p)] [] Q:=by
 have b1:(x.a.map Op.row).length=x.a.length:=Yh _
 refine .code hM rfl ?_
 simp(disch:=omega)[ZDD]
 refine Lp.rule (fun (j:Nat)=>[(3,.a (.one (.tip 1 []))),(7,.a (.one (.p (.sl 3 (x.a.map Op.row))))),(8,.a (pi x.a.length)),(9,.a (pi j)),(9999,.objs [])]) (fun j=>j<=x.a.length) (fun j=>x.a.length-j) (a₀:=0) Zs (Yd _) ?_
 intro j k1
 by_cases hj:j<x.a.length
 ·have r1:=ZFk (f:=Op.row) (l:=x.a) (j:=j) Zo
  have hc:=ZH8 h0 x.a[j] (Yl hj)
  simp(disch:=omega)[r1,hc]
  exact RdN.mk (j+1) Zs hj Zo
 ·simp(disch:=omega)
  refine hO _ ?_
  simp(disch:=omega)
  exact hQ
def thr (x:In):Bool:=decide ((x.o=14∨x.o=15)/\x.n=1)
def dstF (o:Int):Bool:=decide (o=1∨o=2∨o=3∨o=6∨o=8∨o=9∨o=10∨o=11∨o=12∨o=13∨o=14∨o=15∨o=16)
def toF (x:In):Bool:=decide (x.o=17∨x.o=18∨x.o=19)||thr x
def errF (x:In):Bool:=decide (x.o=18∨x.o=19)||thr x
def ZHa (U:HU S) {x:In} (hQ: ∀a b c d f:Bool,Q [.agg [.p (.bool (dstF x.o)),.p (.bool a),.p (.bool b),.p (.bool c),.p (.bool d),.p (.bool f),.p (.bool (toF x)),.p (.bool (errF x)),.p (.bool (thr x))]] []):Gives S ZEG [.agg (x.row.map .p)] [] Q:=by
 refine .code U.zmUsesq rfl ?_
 simp(disch:=omega)[ZFO]
 by_cases h:x.o=14∨x.o=15
 ·by_cases hn:x.n=1
  ·have e1:dstF x.o=true:=by simp [dstF];omega
   have e2:thr x=true:=by simp [thr];omega
   have e3:toF x=true:=by simp [toF,e2]
   have e4:errF x=true:=by simp [errF,e2]
   rw [e1,e2,e3,e4] at hQ
   rcases h with h|h<;>simp(disch:=omega)[h,hn]<;>exact hQ _ _ _ _ _
  ·have e1:dstF x.o=true:=by simp [dstF];omega
   have e2:thr x=false:=by simp [thr];omega
   have e3:toF x=false:=by simp [toF,e2];omega
   have e4:errF x=false:=by simp [errF,e2];omega
   rw [e1,e2,e3,e4] at hQ
   rcases h with h|h<;>simp(disch:=omega)[h,hn]<;>exact hQ _ _ _ _ _
 have e2:thr x=false:=by simp [thr];omega
 by_cases h1:x.o=17∨x.o=18∨x.o=19
 ·have e1:dstF x.o=false:=by simp [dstF];omega
  have e3:toF x=true:=by simp [toF];omega
  rw [e1,e2,e3] at hQ
  rcases h1 with h1|h1|h1
  ·have e4:errF x=false:=by simp [errF,e2,h1]
   rw [e4] at hQ
   simp(disch:=omega)[h1];exact hQ _ _ _ _ _
  ·have e4:errF x=true:=by simp [errF,e2,h1]
   rw [e4] at hQ
   simp(disch:=omega)[h1];exact hQ _ _ _ _ _
  ·have e4:errF x=true:=by simp [errF,e2,h1]
   rw [e4] at hQ
   simp(disch:=omega)[h1];exact hQ _ _ _ _ _
 have e3:toF x=false:=by simp [toF,e2];omega
 have e4:errF x=false:=by simp [errF,e2];omega
 by_cases h2:dstF x.o=true
 ·rw [h2,e2,e3,e4] at hQ
  simp [dstF] at h2
  have h3:x.o=1∨x.o=2∨x.o=3∨x.o=6∨x.o=8∨x.o=9∨x.o=10∨x.o=11∨x.o=12∨x.o=13∨x.o=16:=by omega
  rcases h3 with h3|h3
  ·by_cases hk:x.t.k=1
   ·simp(disch:=omega)[h3,hk];exact hQ _ _ _ _ _
   ·simp(disch:=omega)[h3,hk];exact hQ _ _ _ _ _
  ·rcases h3 with h3|h3|h3|h3|h3|h3|h3|h3|h3|h3<;>simp(disch:=omega)[h3]<;>exact hQ _ _ _ _ _
 ·have h2':dstF x.o=false:=by simpa using h2
  rw [h2',e2,e3,e4] at hQ
  simp [dstF] at h2
  simp(disch:=omega)[h2]
  exact hQ _ _ _ _ _
def ZHs (x:In):List Int:=(if dstF x.o then [x.d] else [])++(if thr x then [x.e] else [])
def ZIy (U:HU S) {x:In} (hQ:Q [.one (.p (.sl 1 (ZaX (ZDF (ZHs x)))))] []):Gives S ZE1 [.agg (x.row.map .p)] [] Q:=by
 refine .code U.zmFills rfl ?_
 simp(disch:=omega)[ZFK]
 refine ZHa U fun a b c d f=>?_
 unfold ZHs at hQ
 cases h1:dstF x.o<;>cases h2:thr x<;>rw [h1,h2] at hQ<;>simp(disch:=omega)
 ·refine ZEj U.zmNumbersq (l:=[]) Zs ?_
  simp(disch:=omega)
  exact hQ
 ·refine ZEj U.zmNumbersq (l:=[x.e]) Zs ?_
  simp(disch:=omega)
  exact hQ
 ·refine ZEj U.zmNumbersq (l:=[x.d]) Zs ?_
  simp(disch:=omega)
  exact hQ
 ·refine ZEj U.zmNumbersq (l:=[x.d,x.e]) Zs ?_
  simp(disch:=omega)
  exact hQ
def ZJI (x:In):List Int:=if x.o=17 then [x.to] else if x.o=18∨x.o=19∨thr x=true then (if x.to=x.er then [x.to] else [x.to,x.er]) else []
def ZI3 (U:HU S) {x:In} (hQ:Q [.one (.p (.sl 1 (ZaX (ZJI x))))] []):Gives S ZFz [.agg (x.row.map .p)] [] Q:=by
 refine .code U.zmNext rfl ?_
 simp(disch:=omega)[ZGq]
 refine ZHa U fun a b c d f=>?_
 unfold ZJI at hQ
 by_cases h1:x.o=17
 ·have e1:toF x=true:=by simp [toF,h1]
  have e2:errF x=false:=by simp [errF,thr,h1]
  rw [if_pos h1] at hQ
  simp(disch:=omega)[e1,e2]
  exact hQ
 ·rw [if_neg h1] at hQ
  by_cases h2:x.o=18∨x.o=19∨thr x=true
  ·have e1:toF x=true:=by rcases h2 with h|h|h<;>simp [toF,h]
   have e2:errF x=true:=by rcases h2 with h|h|h<;>simp [errF,h]
   rw [if_pos h2] at hQ
   by_cases h3:x.to=x.er
   ·rw [if_pos h3] at hQ
    simp(disch:=omega)[e1,e2,h3]
    rw [h3] at hQ
    exact hQ
   ·rw [if_neg h3] at hQ
    have h4: ¬x.er=x.to:=fun h=>h3 h.symm
    simp(disch:=omega)[e1,e2,h4]
    exact hQ
  ·rw [if_neg h2] at hQ
   simp only [not_or,Bool.not_eq_true] at h2
   obtain ⟨a1,a2,a3⟩:=h2
   have e1:toF x=false:=by simp [toF,a3];omega
   have e2:errF x=false:=by simp [errF,a3];omega
   simp(disch:=omega)[e1,e2]
   exact hQ
def ZD5 (U:HU S) {x:In} (hQ:Q [pb (thr x)] []):Gives S ZDL [.agg (x.row.map .p)] [] Q:=by
 refine .code U.middleThrowsq rfl ?_
 simp(disch:=omega)[ZD4]
 by_cases h:x.o=14
 ·by_cases hn:x.n=1
  ·have e:thr x=true:=by simp [thr,h,hn]
   rw [e] at hQ
   simp(disch:=omega)[h,hn];exact hQ
  ·have e:thr x=false:=by simp [thr,hn]
   rw [e] at hQ
   simp(disch:=omega)[h,hn];exact hQ
 ·by_cases h1:x.o=15
  ·by_cases hn:x.n=1
   ·have e:thr x=true:=by simp [thr,h1,hn]
    rw [e] at hQ
    simp(disch:=omega)[h1,hn];exact hQ
   ·have e:thr x=false:=by simp [thr,hn]
    rw [e] at hQ
    simp(disch:=omega)[h1,hn];exact hQ
  ·have e:thr x=false:=by simp [thr,h,h1]
   rw [e] at hQ
   simp(disch:=omega)[h,h1];exact hQ
def ZGz (U:HU S) {x:In} (hQ:Q [.one (.p (.sl 1 (ZaX (ZJI x))))] []):Gives S ZD8 [.agg (x.row.map .p)] [] Q:=by
 refine .code U.middleNext rfl ?_
 simp(disch:=omega)[ZEs]
 unfold ZJI at hQ
 by_cases h1:x.o=17
 ·rw [if_pos h1] at hQ
  simp(disch:=omega)[h1]
  exact hQ
 rw [if_neg h1] at hQ
 by_cases h2:x.o=18∨x.o=19
 ·rw [if_pos (by rcases h2 with h|h<;>simp [h])] at hQ
  by_cases h3:x.to=x.er
  ·rw [if_pos h3] at hQ
   rcases h2 with h|h<;>simp(disch:=omega)[h,h3]<;>rw [h3] at hQ<;>exact hQ
  ·rw [if_neg h3] at hQ
   rcases h2 with h|h<;>simp(disch:=omega)[h,h3]<;>exact hQ
 ·simp only [not_or] at h2
  simp(disch:=omega)[h1,h2.1,h2.2]
  refine ZD5 U ?_
  cases h4:thr x
  ·rw [if_neg (by simp [h2.1,h2.2,h4])] at hQ
   simp(disch:=omega)
   exact hQ
  ·rw [if_pos (by simp [h4])] at hQ
   by_cases h3:x.to=x.er
   ·rw [if_pos h3] at hQ
    simp(disch:=omega)[h3]
    rw [h3] at hQ
    exact hQ
   ·rw [if_neg h3] at hQ
    simp(disch:=omega)[h3]
    exact hQ
theorem ZIT: ∀o:Int,pBin .and (.int .i64 (ZIc o)) (.int .i64 1)=some (.int .i64 (if dstF o then 1 else 0)):=by
 intro o
 by_cases h:0<=o/\o<22
 ·obtain ⟨k,rfl⟩: ∃k:Nat,o=k:=⟨o.toNat,by omega⟩
  match k,h with
  | 0,_=>rfl
  | 1,_=>rfl
  | 2,_=>rfl
  | 3,_=>rfl
  | 4,_=>rfl
  | 5,_=>rfl
  | 6,_=>rfl
  | 7,_=>rfl
  | 8,_=>rfl
  | 9,_=>rfl
  | 10,_=>rfl
  | 11,_=>rfl
  | 12,_=>rfl
  | 13,_=>rfl
  | 14,_=>rfl
  | 15,_=>rfl
  | 16,_=>rfl
  | 17,_=>rfl
  | 18,_=>rfl
  | 19,_=>rfl
  | 20,_=>rfl
  | 21,_=>rfl
  | n+22,h=>exact absurd h Zo
 ·have e1:ZIc o=0:=if_neg h
  have e2:dstF o=false:=by simp [dstF];omega
  rw [e1,e2];rfl
def ZJ2 {a:Int}:[[P.int .i64 a]]=ZaX [a]:=rfl
def ZKb {a b:Int}:[[P.int .i64 a],[P.int .i64 b]]=ZaX [a,b]:=rfl
def ZFV (U:HU S) (hM:S ZDA=some (.code ZDK)) (hR: ∀(o:Int) (Q:List A->List (List C)->Prop),Q [.agg [.junk,.p (.int .i64 (ZIc o)),.junk]] []->Gives S ZDX [pi o] [] Q) (hO: ∀Q:List A->List (List C)->Prop,Q [.one (.p (.sl 1 []))] []->Gives S ZDz [.one (.p (.sl 1 []))] [] Q)
  {x:In} (hd:dstF x.o=false) (ht:thr x=false) (hQ:Q [.one (.p (.sl 1 []))] []):Gives S ZDA [.agg (x.row.map .p)] [] Q:=by
 have h1:=ZIT x.o
 rw [hd] at h1
 refine .code hM rfl ?_
 simp(disch:=omega)[ZDK]
 refine hR _ _ ?_
 simp(disch:=omega)[h1]
 refine ZD5 U ?_
 rw [ht]
 simp(disch:=omega)
 refine hO _ ?_
 simp(disch:=omega)
 exact hQ
def ZFW (U:HU S) (hM:S ZDA=some (.code ZDG)) (hR: ∀(o:Int) (Q:List A->List (List C)->Prop),Q [.agg [.junk,.p (.int .i64 (ZIc o)),.junk]] []->Gives S ZDX [pi o] [] Q) (hO: ∀(l:List Int) (Q:List A->List (List C)->Prop),l.length<=2000->Q [.one (.own ⟨false,0,0⟩ 1 (once l).length)] [ZmH (once l++List.replicate (l.length-(once l).length) 0)]->Gives S ZDz [.one (.own ⟨false,0,0⟩ 1 l.length)] [ZmH l] Q)
  {x:In} (hd:dstF x.o=true) (hQ:Q [.one (.p (.sl 1 (ZaX (once (ZHs x)))))] []):Gives S ZDA [.agg (x.row.map .p)] [] Q:=by
 have h1:=ZIT x.o
 rw [hd] at h1
 unfold ZHs at hQ
 rw [hd] at hQ
 refine .code hM rfl ?_
 simp(disch:=omega)[ZDG]
 refine hR _ _ ?_
 simp(disch:=omega)[h1]
 refine ZD5 U ?_
 cases ht:thr x<;>rw [ht] at hQ
 ·have t1:=fun e=>Zf8 (k:=3) (κ:=17001) (e:=e) (l:=[x.d]) Zs
  have c1:=fun φ=>ZDT (φ:=φ) (l:=[x.d])
  have c2:=ZEC (l:=[x.d])
  rw [<-ZJ2] at t1
  simp(disch:=omega)[t1,ZEX,c1,c2]
  refine hO [x.d] _ Zs ?_
  simp(disch:=omega)[ZG5,ZDT,ZFP]
  exact hQ
 ·have t1:=fun e=>Zf8 (k:=3) (κ:=17001) (e:=e) (l:=[x.d,x.e]) Zs
  have c1:=fun φ=>ZDT (φ:=φ) (l:=[x.d,x.e])
  have c2:=ZEC (l:=[x.d,x.e])
  rw [<-ZKb] at t1
  simp(disch:=omega)[t1,ZEX,c1,c2]
  refine hO [x.d,x.e] _ Zs ?_
  simp(disch:=omega)[ZG5,ZDT,ZFP]
  exact hQ
def ZES (U:HU S) (hL:S ZDO=some (.code ZDY)) {x:In}
  (HW: ∀Q:List A->List (List C)->Prop,(∀n:Int,(n<=1500->x.a.length<=1500)->Q [pi n] [])->Gives S ZEh [.agg (x.row.map .p)] [] Q)
  (HA: ∀Q:List A->List (List C)->Prop,Q [pb true] []->Gives S ZEe [] [] Q)
  (HC:x.a.length<=1500-> ∀Q:List A->List (List C)->Prop,Q [.one (.p (.sl 1 (ZaX (once (ZEK x.a)))))] []->Gives S ZDy [.agg (x.row.map .p)] [] Q)
  (HU':x.a.length<=1500-> ∀Q:List A->List (List C)->Prop,Q [.one (.p (.sl 1 (ZaX (once (ZFj x.a)))))] []->Gives S ZDC [.agg (x.row.map .p)] [] Q)
  (HF: ∀Q:List A->List (List C)->Prop,Q [.one (.p (.sl 1 (ZaX (once (ZHs x)))))] []->Gives S ZDA [.agg (x.row.map .p)] [] Q)
  (hQ:Q [pb true] []):Gives S ZDO [.agg (x.row.map .p)] [] Q:=by
 have ho: ∀l,once l=ZDF l:=ZII
 simp only [ho] at HC HU' HF
 refine .code hL rfl ?_
 simp(disch:=omega)[ZDY]
 refine HW _ fun n hn=>?_
 by_cases h:n<=1500
 ·have hl:=hn h
  have l1:(ZDF (ZEK x.a)).length<=2000:=by have:=ZDV (ZEK x.a);have:=ZFL x.a;omega
  have hu:(ZFj x.a).length=x.a.length:=by simp [ZFj]
  have l2:(ZDF (ZFj x.a)).length<=2000:=by have:=ZDV (ZFj x.a);omega
  have l3:(ZDF (ZHs x)).length<=2000:=by
   have:=ZDV (ZHs x)
   have:(ZHs x).length<=2:=by unfold ZHs;split<;>split<;>simp
   omega
  have l4:(ZJI x).length<=2000:=by
   unfold ZJI
   split
   ·simp
   ·split
    ·split<;>simp
    ·simp
  simp(disch:=omega)[h]
  refine HC hl _ ?_
  simp(disch:=omega)
  refine ZGt U Zo ?_
  simp(disch:=omega)
  refine ZFA U l1 ?_
  simp(disch:=omega)
  refine HU' hl _ ?_
  simp(disch:=omega)
  refine ZI0 U Zo ?_
  simp(disch:=omega)
  refine ZFA U l2 ?_
  simp(disch:=omega)
  refine HF _ ?_
  simp(disch:=omega)
  refine ZIy U ?_
  simp(disch:=omega)
  refine ZFA U l3 ?_
  simp(disch:=omega)
  refine ZGz U ?_
  simp(disch:=omega)
  refine ZI3 U ?_
  simp(disch:=omega)
  refine ZFA U l4 ?_
  simp(disch:=omega)
  refine HA _ ?_
  simp(disch:=omega)
  exact hQ
 ·simp(disch:=omega)[h]
  refine HA _ ?_
  simp(disch:=omega)
  exact hQ
end Go.Am.Fe
end
