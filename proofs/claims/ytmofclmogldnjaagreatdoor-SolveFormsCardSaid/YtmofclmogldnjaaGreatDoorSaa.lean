/- Part. -/
set_option maxRecDepth 999999
set_option maxHeartbeats 0
set_option linter.all false
section
namespace Go.Am
def cmpN:List Nat->List Nat->Int
 | [],[]=>0
 | [],_::_=> -1
 | _::_,[]=>1
 | a::l1,b::l2=>if a<b then -1 else if b<a then 1 else cmpN l1 l2
theorem ZiN: ∀(a b:List Nat),cmpN a b=0↔a=b
 | [],[]=>by simp [cmpN]
 | [],_::_=>by simp [cmpN]
 | _::_,[]=>by simp [cmpN]
 | a::l,b::m=>by
   rw [cmpN]
   by_cases h:a<b
   · rw [if_pos h];simp;omega
   · rw [if_neg h]
     by_cases h':b<a
     · rw [if_pos h'];simp;omega
     · rw [if_neg h',ZiN l m];simp;omega
theorem ZrV (a b:List Nat): -1<=cmpN a b/\cmpN a b<=1:=by
 fun_induction cmpN a b<;>simp_all
end Go.Am
end
section
namespace Go.Am.Fe
def Tot:Nat->List (List Nat)->Nat
 | d,[]=>2 ^ d
 | d,ch::cs=>(ch.map fun k=>Tot (d+k) cs).sum
def Rest:Nat->List (List Nat)->List Nat->Nat
 | d,ch::cs,k::p=>Rest (d+ch.getD k 0) cs p+((ch.drop (k+1)).map fun a=>Tot (d+a) cs).sum
 | d,_,_=>2 ^ d
def sumP:List (List Nat)->List Nat->Nat
 | ch::cs,k::p=>ch.getD k 0+sumP cs p
 | _,_=>0
def Zif:List (List Nat)->List Nat->Option (List Nat)
 | ch::cs,k::p=>match Zif cs p with
   | some q=>some (k::q)
   | none=>if k+1<ch.length then some ((k+1)::List.replicate cs.length 0) else none
 | _,_=>none
def ZoG:List (List Nat)->List Nat->Prop
 | [],[]=>True
 | ch::cs,k::p=>k<ch.length/\ZoG cs p
 | _,_=>False
theorem Zlj: ∀{cs:List (List Nat)} {p:List Nat},ZoG cs p->p.length=cs.length
 | [],[],_=>rfl
 | _::_,_::_,h=>by simp [Zlj h.2]
 | [],_::_,h=>h.elim
 | _::_,[],h=>h.elim
theorem ZiW: ∀{cs:List (List Nat)},(∀ch∈cs,ch≠[])->ZoG cs (List.replicate cs.length 0)
 | [],_=>trivial
 | ch::cs,h=>⟨List.length_pos_iff.2 (h ch List.mem_cons_self),ZiW fun c hc=>h c (List.mem_cons_of_mem _ hc)⟩
theorem ZlG: ∀{cs:List (List Nat)} {p q:List Nat},(∀ch∈cs,ch≠[])->ZoG cs p->Zif cs p=some q->ZoG cs q
 | [],[],_,_,_,h=>by simp [Zif] at h
 | ch::cs,k::p,q,hn,hf,h=>by
   unfold Zif at h
   cases h1:Zif cs p with
   | some q'=>
     rw [h1] at h
     injection h with h
     subst h
     exact ⟨hf.1,ZlG (fun c hc=>hn c (List.mem_cons_of_mem _ hc)) hf.2 h1⟩
   | none=>
     rw [h1] at h
     dsimp only at h
     split at h
     · injection h with h
       subst h
       exact ⟨by assumption,ZiW fun c hc=>hn c (List.mem_cons_of_mem _ hc)⟩
     · cases h
 | [],_::_,_,_,hf,_=>hf.elim
 | _::_,[],_,_,hf,_=>hf.elim
theorem Ziz: ∀{cs:List (List Nat)} {d:Nat},(∀ch∈cs,ch≠[])->Rest d cs (List.replicate cs.length 0)=Tot d cs
 | [],d,_=>rfl
 | []::cs,d,h=>absurd rfl (h [] List.mem_cons_self)
 | (a::ch)::cs,d,h=>by
   have ih:=Ziz (cs:=cs) (d:=d+a) fun c hc=>h c (List.mem_cons_of_mem _ hc)
   simp [Rest,Tot,List.replicate,ih]
theorem Zmi: ∀{cs:List (List Nat)} {p:List Nat} {d:Nat},(∀ch∈cs,ch≠[])->ZoG cs p->Rest d cs p=2 ^ (d+sumP cs p)+(match Zif cs p with|some q=>Rest d cs q|none=>0)
 | [],[],d,_,_=>by simp [Rest,sumP,Zif]
 | ch::cs,k::p,d,hn,hf=>by
   have hn': ∀c∈cs,c≠[]:=fun c hc=>hn c (List.mem_cons_of_mem _ hc)
   have ih:=Zmi (d:=d+ch.getD k 0) hn' hf.2
   rw [Rest,ih,sumP,Zif,Nat.add_assoc d]
   cases h1:Zif cs p with
   | some q=>simp only [Rest];omega
   | none=>
     dsimp only
     by_cases hk:k+1<ch.length
     · rw [if_pos hk]
       dsimp only
       have e:ch.drop (k+1)=ch[k+1]::ch.drop (k+1+1):=List.drop_eq_getElem_cons hk
       have e2:ch.getD (k+1) 0=ch[k+1]:=by simp [List.getD,hk]
       rw [Rest,Ziz hn',e,e2,List.map_cons,List.sum_cons];omega
     · rw [if_neg hk,List.drop_eq_nil_of_le (by omega)];simp
 | [],_::_,_,_,hf=>hf.elim
 | _::_,[],_,_,hf=>hf.elim
theorem ZnZ (n:Nat):1<=2 ^ n:=Nat.one_le_two_pow
def Sm (ch:List Nat):Nat:=(ch.map fun k=>2 ^ k).sum
def Pr (cs:List (List Nat)):Nat:=cs.foldr (fun ch n=>Sm ch*n) 1
theorem ZtM: ∀{cs:List (List Nat)} {d:Nat},Tot d cs=2 ^ d*Pr cs
 | [],d=>by simp [Tot,Pr]
 | ch::cs,d=>by
   have key: ∀l:List Nat,(l.map fun k=>Tot (d+k) cs).sum=2 ^ d*(Sm l*Pr cs):=by
     intro l
     induction l with
     | nil=>simp [Sm]
     | cons a l ih=>
       rw [List.map_cons,List.sum_cons,ih,ZtM (cs:=cs),Nat.pow_add]
       simp only [Sm,List.map_cons,List.sum_cons,Nat.add_mul,Nat.mul_add]
       rw [Nat.mul_assoc]
   rw [Tot,key];rfl
def pw (n:Nat):Nat:=min (2 ^ min n 20) 5001
theorem Zy7 (n:Nat):pw n=min (2 ^ n) 5001:=by
 unfold pw
 rcases Nat.le_total n 20 with h|h
 ·rw [Nat.min_eq_left h]
 ·rw [Nat.min_eq_right h]
  have:2 ^ 20<=2 ^ n:=Nat.pow_le_pow_right (by decide) h
  have h2:(2:Nat) ^ 20=1048576:=by decide
  rw [h2] at this⊢
  omega
def sm (ch:List Nat):Nat:=(ch.map pw).sum
theorem Zvg: ∀ch:List Nat,min (sm ch) 5001=min (Sm ch) 5001
 | []=>rfl
 | a::l=>by
   have h:=Zvg l
   have h2:=Zy7 a
   simp only [sm,Sm,List.map_cons,List.sum_cons] at h⊢
   rw [h2]
   omega
theorem Zyc {ch:List Nat} (h:ch≠[]):1<=Sm ch:=by
 cases ch with
 | nil=>exact absurd rfl h
 | cons a l=>
   have:=ZnZ a
   simp only [Sm,List.map_cons,List.sum_cons];omega
theorem ZtT {a s s':Nat} (ha:1<=a) (hs:1<=s) (h:min s' 5001=min s 5001):min (min a 5001*s') 5001=min (a*s) 5001:=by
 rcases Nat.lt_or_ge a 5001 with h1|h1
 ·rw [Nat.min_eq_left (Nat.le_of_lt h1)]
  rcases Nat.lt_or_ge s 5001 with h2|h2
  ·have:s'=s:=by omega
   rw [this]
  ·have h3:5001<=s':=by omega
   have q1:5001<=a*s':=Nat.le_trans h3 (Nat.le_mul_of_pos_left _ ha)
   have q2:5001<=a*s:=Nat.le_trans h2 (Nat.le_mul_of_pos_left _ ha)
   omega
 ·rw [Nat.min_eq_right h1]
  have h3:1<=s':=by omega
  have q1:5001<=5001*s':=Nat.le_mul_of_pos_right _ h3
  have q2:5001<=a*s:=Nat.le_trans h1 (Nat.le_mul_of_pos_right _ hs)
  omega
def Ztv (n:Nat) (ch:List Nat):Nat:=min (n*sm ch) 5001
theorem Zok: ∀{cs:List (List Nat)} {a:Nat},1<=a->(∀ch∈cs,ch≠[])->cs.foldl Ztv (min a 5001)=min (a*Pr cs) 5001
 | [],a,_,_=>by simp [Pr]
 | ch::cs,a,ha,h=>by
   have hp:=Zyc (h ch List.mem_cons_self)
   have h1:=ZtT ha hp (Zvg ch)
   rw [List.foldl_cons,Ztv,h1,Zok (Nat.le_trans hp (Nat.le_mul_of_pos_left _ ha)) fun c hc=>h c (List.mem_cons_of_mem _ hc)]
   rw [Nat.mul_assoc];rfl
theorem ZuV {cs:List (List Nat)} {d:Nat} (h: ∀ch∈cs,ch≠[]):cs.foldl Ztv (pw d)=min (Tot d cs) 5001:=by
 rw [Zy7,Zok (ZnZ d) h,ZtM]
theorem Znu: ∀{a:List (List Nat)} {pa:List Nat} {cs:List (List Nat)} {p q:List Nat},a.length=pa.length->Zif cs p=some q->Zif (a++cs) (pa++p)=some (pa++q)
 | [],[],_,_,_,_,h=>h
 | x::a,k::pa,cs,p,q,hl,h=>by
   have:=Znu (a:=a) (pa:=pa) (by simpa using hl) h
   simp [Zif,this]
 | [],_::_,_,_,_,hl,_=>by simp at hl
 | _::_,[],_,_,_,hl,_=>by simp at hl
theorem Zux {cs:List (List Nat)} {p:List Nat} {i:Nat} (hl:p.length=cs.length) (hi:i<cs.length) (hn:Zif (cs.drop (i+1)) (p.drop (i+1))=none):
  Zif (cs.drop i) (p.drop i)=if p[i]+1<cs[i].length then some ((p[i]+1)::List.replicate (cs.length-(i+1)) 0) else none:=by
 have hp:i<p.length:=by omega
 rw [List.drop_eq_getElem_cons hi,List.drop_eq_getElem_cons hp,Zif,hn]
 simp
theorem ZoB {cs:List (List Nat)} {p q:List Nat} {i:Nat} (hl:p.length=cs.length) (hi:i<=cs.length) (hn:Zif (cs.drop i) (p.drop i)=some q):Zif cs p=some (p.take i++q):=by
 have:=Znu (a:=cs.take i) (pa:=p.take i) (by simp;omega) hn
 rwa [List.take_append_drop,List.take_append_drop] at this
abbrev ZbQ:Nat:=49
abbrev Zbm:Nat:=33
abbrev ZbN:Nat:=48
abbrev ZcI:Nat:=20
abbrev Zcb:Nat:=286
abbrev Za3:Nat:=230
abbrev Zbt:Nat:=231
abbrev Zfb:Nat:=229
abbrev ZaV:Nat:=232
abbrev ZaP:Nat:=160
abbrev Zda:Nat:=94
abbrev ZaO:Nat:=158
abbrev Zau:Nat:=153
abbrev Za9:Nat:=320
abbrev Zb3:Nat:=277
abbrev Zbe:Nat:=276
abbrev Za0:Nat:=278
abbrev Zdp:Nat:=223
abbrev ZcG:Nat:=222
abbrev Zel:Nat:=161
abbrev ZbO:Nat:=234
abbrev Zd8:Nat:=163
abbrev ZbJ:Nat:=164
abbrev ZaY:Nat:=233
abbrev ZaJ:Nat:=162
abbrev ZbU:Nat:=95
abbrev ZcK:Nat:=60
abbrev Zbu:Nat:=59
abbrev Zaz:Nat:=93
abbrev Zap:Nat:=58
abbrev ZbF:Nat:=25
abbrev ZbK:Nat:=90
abbrev Zbk:Nat:=51
abbrev ZbR:Nat:=50
abbrev Za5:Nat:=21
abbrev Zen:Nat:=181
abbrev Zfi:Nat:=176
abbrev Zgi:Nat:=175
abbrev ZbE:Nat:=329
abbrev Zgr:Nat:=290
abbrev ZgU:Nat:=236
abbrev Zje:Nat:=165
abbrev Zcm:Nat:=237
abbrev ZiZ:Nat:=166
abbrev Zfh:Nat:=96
abbrev Zeo:Nat:=11
abbrev Zc7:Nat:=40
abbrev Zfq:Nat:=97
abbrev ZgV:Nat:=61
abbrev Zeg:Nat:=26
abbrev ZgP:Nat:=53
abbrev Zdv:Nat:=91
abbrev Zby:Nat:=52
abbrev Zdl:Nat:=92
abbrev Zgn:Nat:=54
abbrev Zbx:Nat:=22
abbrev Zca:Nat:=55
abbrev Zb9:Nat:=23
abbrev Zej:Nat:=56
abbrev Zd3:Nat:=24
abbrev Zbf:Nat:=5
abbrev ZdO:Nat:=27
abbrev ZaR:Nat:=57
abbrev ZcC:Nat:=235
abbrev ZbC:Nat:=287
end Go.Am.Fe
end
