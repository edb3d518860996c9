/- Part. -/
import Derived.Test.YtnnimjficnjbdaaGreatDoorOaf
set_option maxRecDepth 999999
set_option maxHeartbeats 0
set_option linter.all false
section
namespace Go.Am.Fe
open Go.Am.Tx
variable {S:Nat->Option Fn} {Q:List A->List (List C)->Prop}
attribute [simp] Tx.o Tx.og Tx.m Tx.mt Tx.r Tx.q Tx.i Tx.e Tx.v Tx.n Tx.s Tx.z Tx.b
abbrev pi (x:Int):A:= .one (.p (.int .i64 x))
abbrev pb (x:Bool):A:= .one (.p (.bool x))
abbrev ps (x:List Nat):A:= .one (.p (.str x))
theorem ZbO {x:Int} (h1: -9223372036854775808<=x) (h2:x<=9223372036854775807):IntKind.i64.wrap x=x:=by
 unfold IntKind.wrap IntKind.bits IntKind.signed
 simp
 omega
def RdN {α:Type} (st:α->Env) (Pr:α->Prop) (μ:α->Nat) (a:α) (e:Env):Prop:= ∃a',e=st a'/\Pr a'/\μ a'<μ a
theorem ZgF {α:Type} {live:List Nat} {st:α->Env} {Pr:α->Prop} {μ:α->Nat} {a:α} {e:Env}:Rd live st Pr μ a e=RdN st Pr μ a (e.norm live):=rfl
theorem RdN.mk {α:Type} {st:α->Env} {Pr:α->Prop} {μ:α->Nat} {a:α} {e:Env} (a':α) (h:e=st a') (hp:Pr a') (hm:μ a'<μ a):RdN st Pr μ a e:=⟨a',h,hp,hm⟩
noncomputable def dq (p:Prop):Bool:= @decide p (Classical.propDecidable p)
theorem ZD3 {p:Prop}:dq p=true↔p:= @decide_eq_true_iff p (Classical.propDecidable p)
theorem ZEg {p:Prop}:dq p=false↔ ¬p:= @decide_eq_false_iff_not p (Classical.propDecidable p)
theorem ZDz {p:Prop} (h:p):dq p=true:=ZD3.2 h
theorem ZDy {p:Prop} (h: ¬p):dq p=false:=ZEg.2 h
theorem ZOX {p q:Prop} (h:p↔q):dq p=dq q:=by rw [propext h]
theorem ZR2 {p:Prop} {b:Bool} (h:b=true↔p):dq p=b:=by
 cases b
 ·exact ZDy fun hp=>nomatch h.2 hp
 ·exact ZDz (h.1 rfl)
inductive Ty where
 | mk (k:Int) (s:List Nat) (n:Int) (args:List Ty)
def Ty.k:Ty->Int| .mk k _ _ _=>k
def Ty.s:Ty->List Nat| .mk _ s _ _=>s
def Ty.n:Ty->Int| .mk _ _ n _=>n
def Ty.a:Ty->List Ty| .mk _ _ _ a=>a
mutual
def Ty.enc:Ty->List P
 | .mk k s n args=>[.int .i64 k,.str s,.int .i64 n,.sl 4 (Ty.encs args)]
def Ty.encs:List Ty->List (List P)
 | []=>[]
 | t::l=>t.enc::Ty.encs l
end
mutual
def Ty.sz:Ty->Nat
 | .mk _ _ _ args=>1+Ty.szs args
def Ty.szs:List Ty->Nat
 | []=>0
 | t::l=>t.sz+Ty.szs l
end
mutual
def Ty.fw:Ty->Prop
 | .mk _ _ _ args=>args.length<=9223372036854775807/\Ty.fws args
def Ty.fws:List Ty->Prop
 | []=>True
 | t::l=>t.fw/\Ty.fws l
end
abbrev Ty.row (t:Ty):List P:=[.int .i64 t.k,.str t.s,.int .i64 t.n,.sl 4 (Ty.encs t.a)]
abbrev Ty.cs (t:Ty):List C:=[.p (.int .i64 t.k),.p (.str t.s),.p (.int .i64 t.n),.p (.sl 4 (Ty.encs t.a))]
theorem Ty.enc_row (t:Ty):t.enc=t.row:=by cases t;rfl
theorem Ty.encs_rows: ∀(l:List Ty),Ty.encs l=l.map Ty.row
 | []=>rfl
 | t::l=>by rw [Ty.encs,Ty.encs_rows l,Ty.enc_row];rfl
theorem Ty.encs_length {l:List Ty}:(Ty.encs l).length=l.length:=by rw [Ty.encs_rows,List.length_map]
theorem Ty.encs_get {l:List Ty} {j:Nat} (h:j<(Ty.encs l).length):(Ty.encs l)[j]=(l[j]'(by simpa [Ty.encs_length] using h)).row:=by
 simp only [Ty.encs_rows,List.getElem_map]
theorem Ty.fws_get: ∀{l:List Ty} {j:Nat} (_:Ty.fws l) (h:j<l.length),l[j].fw
 | t::l,0,hf,_=>hf.1
 | t::l,j+1,hf,h=>Ty.fws_get (l:=l) hf.2 (by simpa using h)
theorem Ty.szs_get: ∀{l:List Ty} {j:Nat} (h:j<l.length),l[j].sz<=Ty.szs l
 | t::l,0,_=>by simp [Ty.szs]
 | t::l,j+1,h=>by have:=Ty.szs_get (l:=l) (j:=j) (by simpa using h);simp [Ty.szs];omega
theorem Ty.szs_take: ∀{l:List Ty} {j:Nat} (h:j<l.length),Ty.szs (l.take (j+1))=Ty.szs (l.take j)+l[j].sz
 | t::l,0,_=>by simp [Ty.szs]
 | t::l,j+1,h=>by
   have:=Ty.szs_take (l:=l) (j:=j) (by simpa using h)
   simp [Ty.szs];omega
theorem Ty.szs_take_le {l:List Ty} {j:Nat}:Ty.szs (l.take j)<=Ty.szs l:=by
 induction l generalizing j with
 | nil=>simp [Ty.szs]
 | cons t l ih=>cases j with
   | zero=>simp [Ty.szs]
   | succ j=>simp [Ty.szs];exact ih
theorem Ty.fw_len {t:Ty} (h:t.fw):t.a.length<=9223372036854775807:=by cases t;exact h.1
theorem Ty.fw_a {t:Ty} (h:t.fw):Ty.fws t.a:=by cases t;exact h.2
theorem Ty.sz_eq {t:Ty}:t.sz=1+Ty.szs t.a:=by cases t;rfl
theorem Ty.mem_fws: ∀{l:List Ty},(∀t∈l,t.fw)->Ty.fws l
 | [],_=>trivial
 | t::l,h=>⟨h t List.mem_cons_self,Ty.mem_fws fun u hu=>h u (List.mem_cons_of_mem _ hu)⟩
inductive Nd where
 | mk (op:Int) (s:List Nat) (n:Int) (t:Ty) (ts:List Ty) (l:List Nd) (z:Int)
def Nd.op:Nd->Int| .mk o _ _ _ _ _ _=>o
def Nd.s:Nd->List Nat| .mk _ s _ _ _ _ _=>s
def Nd.n:Nd->Int| .mk _ _ n _ _ _ _=>n
def Nd.t:Nd->Ty| .mk _ _ _ t _ _ _=>t
def Nd.ts:Nd->List Ty| .mk _ _ _ _ t _ _=>t
def Nd.l:Nd->List Nd| .mk _ _ _ _ _ l _=>l
def Nd.z:Nd->Int| .mk _ _ _ _ _ _ z=>z
mutual
def Nd.enc:Nd->List P
 | .mk op s n (.mk k s2 n2 args) ts l a=>[.int .i64 op,.str s,.int .i64 n,.int .i64 k,.str s2,.int .i64 n2,.sl 4 (Ty.encs args),.sl 4 (Ty.encs ts),.sl 10 (Nd.encs l),.int .i64 a]
def Nd.encs:List Nd->List (List P)
 | []=>[]
 | t::l=>t.enc::Nd.encs l
end
abbrev Nd.row (x:Nd):List P:=[.int .i64 x.op,.str x.s,.int .i64 x.n,.int .i64 x.t.k,.str x.t.s,.int .i64 x.t.n,.sl 4 (Ty.encs x.t.a),.sl 4 (Ty.encs x.ts),.sl 10 (Nd.encs x.l),.int .i64 x.z]
abbrev Nd.cs (x:Nd):List C:=[.p (.int .i64 x.op),.p (.str x.s),.p (.int .i64 x.n),.p (.int .i64 x.t.k),.p (.str x.t.s),.p (.int .i64 x.t.n),.p (.sl 4 (Ty.encs x.t.a)),.p (.sl 4 (Ty.encs x.ts)),.p (.sl 10 (Nd.encs x.l)),.p (.int .i64 x.z)]
theorem Nd.enc_row (x:Nd):x.enc=x.row:=by obtain ⟨_,_,_,⟨_,_,_,_⟩,_,_,_⟩:=x;rfl
theorem Nd.encs_rows: ∀(l:List Nd),Nd.encs l=l.map Nd.row
 | []=>rfl
 | t::l=>by rw [Nd.encs,Nd.encs_rows l,Nd.enc_row];rfl
theorem Nd.encs_length {l:List Nd}:(Nd.encs l).length=l.length:=by rw [Nd.encs_rows,List.length_map]
theorem Nd.encs_get {l:List Nd} {j:Nat} (h:j<(Nd.encs l).length):(Nd.encs l)[j]=(l[j]'(by simpa [Nd.encs_length] using h)).row:=by
 simp only [Nd.encs_rows,List.getElem_map]
mutual
def Nd.fw:Nd->Prop
 | .mk _ s _ t ts l _=>s.length<=9223372036854775807/\t.fw/\ts.length<=9223372036854775807/\Ty.fws ts/\l.length<=9223372036854775807/\Nd.fws l
def Nd.fws:List Nd->Prop
 | []=>True
 | t::l=>t.fw/\Nd.fws l
end
theorem Nd.fws_get: ∀{l:List Nd} {j:Nat} (_:Nd.fws l) (h:j<l.length),l[j].fw
 | t::l,0,hf,_=>hf.1
 | t::l,j+1,hf,h=>Nd.fws_get (l:=l) hf.2 (by simpa using h)
theorem Nd.fw_len {x:Nd} (h:x.fw):x.l.length<=9223372036854775807:=by cases x;exact h.2.2.2.2.1
theorem Nd.fw_s {x:Nd} (h:x.fw):x.s.length<=9223372036854775807:=by cases x;exact h.1
theorem Nd.fw_t {x:Nd} (h:x.fw):x.t.fw:=by cases x;exact h.2.1
theorem Nd.fw_ts {x:Nd} (h:x.fw):x.ts.length<=9223372036854775807/\Ty.fws x.ts:=by cases x;exact ⟨h.2.2.1,h.2.2.2.1⟩
theorem Nd.fw_l {x:Nd} (h:x.fw):Nd.fws x.l:=by cases x;exact h.2.2.2.2.2
mutual
def Nd.dp:Nd->Nat
 | .mk _ _ _ _ _ l _=>1+Nd.dps l
def Nd.dps:List Nd->Nat
 | []=>0
 | t::l=>t.dp+Nd.dps l
end
theorem Nd.dps_get: ∀{l:List Nd} {j:Nat} (h:j<l.length),l[j].dp<=Nd.dps l
 | t::l,0,_=>by simp [Nd.dps]
 | t::l,j+1,h=>by have:=Nd.dps_get (l:=l) (j:=j) (by simpa using h);simp [Nd.dps];omega
theorem Nd.dp_l {x:Nd}:Nd.dps x.l<x.dp:=by cases x;simp [Nd.dp,Nd.l]
end Go.Am.Fe
end
section
namespace Go.Am.Fe
variable {S:Nat->Option Fn} {Q:List A->List (List C)->Prop}
attribute [local simp] ZbO if_pos if_neg decide_eq_true decide_eq_false List.getElem?_cons_zero List.getElem?_cons_succ ZgF Ops.callv List.idxOf?_cons ZDB
def strs (l:List (List Nat)):List (List P):=l.map fun s=>[.str s]
theorem ZHg {l:List (List Nat)}:(strs l).length=l.length:=by simp [strs]
theorem Zbh {l:List (List Nat)} {j:Nat} (h:j<(strs l).length):(strs l)[j]=[.str (l[j]'(by simpa [strs] using h))]:=by simp [strs]
theorem Zaz {l:List (List Nat)} {x:List Nat}:strs (l++[x])=strs l++[[.str x]]:=by simp [strs]
theorem ZJL {l:List (List Nat)} {x:List Nat}:strs (x::l)=[.str x]::strs l:=rfl
def plc:Nat->Nd->List (List Nat)×Bool×Nd
 | 0,x=>([],false,x)
 | k+1,x=>if x.op=75 then (match x.l with
   | [y]=>((plc k y).1++[x.s],decide (x.n=1)||(plc k y).2.1,(plc k y).2.2)
   | _=>([],false,x)) else ([],false,x)
theorem ZI4 {k:Nat} {x:Nd} (h: ¬(x.op=75/\x.l.length=1)):plc k x=([],false,x):=by
 cases k with
 | zero=>rfl
 | succ k=>
   unfold plc
   by_cases h1:x.op=75
   · rw [if_pos h1]
     split
     · rename_i y hy;exact absurd ⟨h1,by rw [hy];rfl⟩ h
     · rfl
   · rw [if_neg h1]
theorem ZIY {k:Nat} {x:Nd} (h1:x.op=75) (h2:x.l.length=1):plc (k+1) x=((plc k (x.l[0]'(by omega))).1++[x.s],decide (x.n=1)||(plc k (x.l[0]'(by omega))).2.1,(plc k (x.l[0]'(by omega))).2.2):=by
 rw [plc,if_pos h1]
 obtain ⟨y,hy⟩:=List.length_eq_one_iff.1 h2
 split
 ·rename_i z hz;simp [hz]
 ·rename_i h;exact absurd hy (h y)
def pP (x:Nd):List (List Nat):=(plc x.dp x).1
def pO (x:Nd):Bool:=(plc x.dp x).2.1
def pR (x:Nd):Nd:=(plc x.dp x).2.2
theorem ZJW (H:Has S) {x:Nd} (hx:x.fw) (hp:(pP x).length<=1000) (hQ1:(pR x).op=74->Q [ps (pR x).s,.one (.p (.sl 1 (strs (pP x)))),pb (pO x),pb true] []) (hQ0:(pR x).op≠74->Q [ps [],.one (.p (.sl 1 [])),pb false,pb false] []):
   Gives S ZHu [.agg x.cs] [] Q:=by
 refine .code H.ZNH rfl ?_
 simp(disch:=omega)[ZIn]
 refine Lp.rule (fun (b:Nat×Nd×List (List Nat)×Bool)=>[(1,.a (.one (.ref ⟨true,10001,0⟩))),(3,.a (.one (.tip 1 (strs b.2.2.1)))),(4,.a (pb b.2.2.2)),(9999,.objs []),(10001,.a (.agg b.2.1.cs))])
   (fun b=>b.2.1.dp<=b.1/\b.2.1.fw/\pP x=(plc b.1 b.2.1).1++b.2.2.1/\pO x=(b.2.2.2||(plc b.1 b.2.1).2.1)/\pR x=(plc b.1 b.2.1).2.2) (fun b=>b.1) (a₀:=(x.dp,x,[],false)) (by simp [strs]) ⟨Nat.le_refl _,hx,by simp [pP],by simp [pO],rfl⟩ ?_
 rintro ⟨k,y,p,ob⟩ ⟨k1,k2,k3,k4,k5⟩
 dsimp only at k1 k2 k3 k4 k5
 have g1:=Nd.encs_length (l:=y.l)
 have g2:=Nd.fw_len k2
 have g3:=ZHg (l:=p)
 have g4:p.length<=1000:=by rw [k3,List.length_append] at hp;omega
 by_cases h:y.op=75/\y.l.length=1
 · obtain ⟨h1,h2⟩:=h
   have hd:=Nd.dp_l (x:=y)
   have hd2:=Nd.dps_get (l:=y.l) (j:=0) Zo
   obtain ⟨k,rfl⟩: ∃m,k=m+1:=⟨k-1,by omega⟩
   rw [ZIY h1 h2] at k3 k4 k5
   have e:=Nd.encs_get (l:=y.l) (j:=0) Zo
   have q:=Nd.fws_get (Nd.fw_l k2) (j:=0) Zo
   have done:pP x=(plc k y.l[0]).1++(y.s::p):=by rw [k3];simp
   cases ob with
   | true=>
     simp(disch:=omega)[h1,h2,e]
     exact RdN.mk (k,y.l[0],y.s::p,true) (by simp [ZJL]) ⟨by dsimp only;omega,q,done,by rw [k4];simp,k5⟩ Zm
   | false=>
     by_cases hn:y.n=1
     · simp(disch:=omega)[h1,h2,e,hn]
       exact RdN.mk (k,y.l[0],y.s::p,true) (by simp [ZJL]) ⟨by dsimp only;omega,q,done,by rw [k4];simp [hn],k5⟩ Zm
     · simp(disch:=omega)[h1,h2,e,hn]
       exact RdN.mk (k,y.l[0],y.s::p,false) (by simp [ZJL]) ⟨by dsimp only;omega,q,done,by rw [k4];simp [hn],k5⟩ Zm
 · rw [ZI4 h] at k3 k4 k5
   have k3:pP x=p:=by rw [k3];simp
   have k4:pO x=ob:=by rw [k4];simp
   have k5:pR x=y:=k5
   rw [k3,k4,k5] at hQ1
   rw [k5] at hQ0
   by_cases h1:y.op=75
   · have h2: ¬(y.l.length:Int)=1:=fun h'=>h ⟨h1,by omega⟩
     simp(disch:=omega)[h1,h2]
     exact hQ0 (by rw [h1];decide)
   · by_cases h3:y.op=74
     · simp(disch:=omega)[h3]
       exact hQ1 h3
     · simp(disch:=omega)[h1,h3]
       exact hQ0 h3
theorem ZJd (H:Has S) {x:Nd} (hx:x.fw) (hp:(pP x).length<=1000) (hQ1:(pR x).op=74->Q [ps (pR x).s,.one (.p (.sl 1 (strs (pP x)))),pb (pO x),pb true] []) (hQ0:(pR x).op≠74->Q [ps [],.one (.p (.sl 1 [])),pb false,pb false] []):
   Gives S ZHT [.agg x.cs] [] Q:=by
 refine .code H.ZP0 rfl ?_
 simp(disch:=omega)[ZJJ]
 refine Lp.rule (fun (b:Nat×Nd×List (List Nat)×Bool)=>[(1,.a (.one (.ref ⟨true,10001,0⟩))),(6,.a (.one (.tip 1 (strs b.2.2.1)))),(7,.a (pb b.2.2.2)),(9999,.objs []),(10001,.a (.agg b.2.1.cs))])
   (fun b=>b.2.1.dp<=b.1/\b.2.1.fw/\pP x=(plc b.1 b.2.1).1++b.2.2.1.reverse/\pO x=(b.2.2.2||(plc b.1 b.2.1).2.1)/\pR x=(plc b.1 b.2.1).2.2) (fun b=>b.1) (a₀:=(x.dp,x,[],false)) (by simp [strs]) ⟨Nat.le_refl _,hx,by simp [pP],by simp [pO],rfl⟩ ?_
 rintro ⟨k,y,p,ob⟩ ⟨k1,k2,k3,k4,k5⟩
 dsimp only at k1 k2 k3 k4 k5
 have g1:=Nd.encs_length (l:=y.l)
 have g2:=Nd.fw_len k2
 have g3:=ZHg (l:=p)
 have g4:p.length<=1000:=by rw [k3,List.length_append,List.length_reverse] at hp;omega
 by_cases h:y.op=75/\y.l.length=1
 · obtain ⟨h1,h2⟩:=h
   have hd:=Nd.dp_l (x:=y)
   have hd2:=Nd.dps_get (l:=y.l) (j:=0) Zo
   obtain ⟨k,rfl⟩: ∃m,k=m+1:=⟨k-1,by omega⟩
   rw [ZIY h1 h2] at k3 k4 k5
   have e:=Nd.encs_get (l:=y.l) (j:=0) Zo
   have q:=Nd.fws_get (Nd.fw_l k2) (j:=0) Zo
   have done:pP x=(plc k y.l[0]).1++(p++[y.s]).reverse:=by rw [k3];simp
   cases ob with
   | true=>
     simp(disch:=omega)[h1,h2,e]
     exact RdN.mk (k,y.l[0],p++[y.s],true) (by simp [Zaz]) ⟨by dsimp only;omega,q,done,by rw [k4];simp,k5⟩ Zm
   | false=>
     by_cases hn:y.n=1
     · simp(disch:=omega)[h1,h2,e,hn]
       exact RdN.mk (k,y.l[0],p++[y.s],true) (by simp [Zaz]) ⟨by dsimp only;omega,q,done,by rw [k4];simp [hn],k5⟩ Zm
     · simp(disch:=omega)[h1,h2,e,hn]
       exact RdN.mk (k,y.l[0],p++[y.s],false) (by simp [Zaz]) ⟨by dsimp only;omega,q,done,by rw [k4];simp [hn],k5⟩ Zm
 · rw [ZI4 h] at k3 k4 k5
   have k3:pP x=p.reverse:=by rw [k3];simp
   have k4:pO x=ob:=by rw [k4];simp
   have k5:pR x=y:=k5
   rw [k4,k5] at hQ1
   rw [k5] at hQ0
   have fin:y.op≠74->True:=fun _=>trivial
   by_cases h1:y.op=75
   · have h2: ¬(y.l.length:Int)=1:=fun h'=>h ⟨h1,by omega⟩
     simp(disch:=omega)[h1,h2]
     exact hQ0 (by rw [h1];decide)
   · by_cases h3:y.op=74
     · simp(disch:=omega)[h3]
       have hr:p.reverse.length=p.length:=List.length_reverse
       refine Lp.rule (fun (j:Nat)=>[(1,.a (.one (.ref ⟨true,10001,0⟩))),(6,.a (.one (.tip 1 (strs p)))),(7,.a (pb ob)),(8,.a (.one (.tip 1 (strs (p.reverse.take j))))),(9,.a (pi ((p.length:Int)-1-j))),(9999,.objs []),(10001,.a (.agg y.cs))]) (fun j=>j<=p.length) (fun j=>p.length-j) (a₀:=0) (by simp [strs,g3,h3]) (Nat.zero_le _) ?_
       intro j j1
       have g5:=ZHg (l:=p.reverse.take j)
       have g6:=List.length_take (i:=j) (l:=p.reverse)
       by_cases hj:j<p.length
       · have e:=Zbh (l:=p) (j:=p.length-1-j) Zo
         have e2:p.reverse[j]'(by omega)=p[p.length-1-j]'(by omega):=by rw [List.getElem_reverse]
         have e3:((p.length:Int)-1-j).toNat=p.length-1-j:=by omega
         simp(disch:=omega)[e,e3]
         exact RdN.mk (j+1) (by rw [List.take_succ_eq_append_getElem Zo,Zaz,e2];simp;omega) hj Zo
       · have e:p.reverse.take j=p.reverse:=List.take_of_length_le Zo
         rw [e,<-k3]
         simp(disch:=omega)
         exact hQ1 h3
     · simp(disch:=omega)[h1,h3]
       exact hQ0 h3
theorem ZNr {α:Type} {a b:List α} {j:Nat} (h:a.take j=b.take j) (ha:j<a.length) (hb:j<b.length) (he:a[j]=b[j]):a.take (j+1)=b.take (j+1):=by
 rw [List.take_add_one,List.take_add_one,h,List.getElem?_eq_getElem ha,List.getElem?_eq_getElem hb,he]
theorem ZNl {α:Type} {a b:List α} {j:Nat} (h:a.take j=b.take j) (ha:a.length<=j) (hb:b.length<=j):a=b:=by
 rwa [List.take_of_length_le ha,List.take_of_length_le hb] at h
theorem ZQI {α:Type} {a b:List α} {j:Nat} (ha:j<a.length) (hb:j<b.length) (h:a[j]≠b[j]):a≠b:=fun e=>h (by subst e;rfl)
theorem ZNT {l:List (List Nat)} {j:Nat} (h:j<(strs l).length):(strs l)[j]=[.str (l[j]'(by simpa [strs] using h))]:=by simp [strs]
theorem ZGw (H:Has S) {l m:List (List Nat)} (hl:l.length<=9223372036854775807) (hm:m.length<=9223372036854775807) (hQ:Q [pb (dq (l=m))] []):Gives S Zmb [.one (.p (.sl 1 (strs l))),.one (.p (.sl 1 (strs m)))] [] Q:=by
 have g0:(strs l).length=l.length:=by simp [strs]
 have g1:(strs m).length=m.length:=by simp [strs]
 refine .code H.ZHy rfl ?_
 simp(disch:=omega)[ZDE]
 by_cases hlm:l.length=m.length
 ·simp(disch:=omega)[hlm,g0,g1]
  refine Lp.rule (fun (j:Nat)=>[(0,.a (.one (.p (.sl 1 (strs l))))),(1,.a (.one (.p (.sl 1 (strs m))))),(12,.a (pi m.length)),(13,.a (pi j)),(9999,.objs [])]) (fun j=>j<=l.length/\l.take j=m.take j) (fun j=>l.length-j) (a₀:=0) (by simp [g0,hlm]) ⟨Nat.zero_le _,by simp⟩ ?_
  rintro j ⟨k1,k2⟩
  by_cases hj:j<l.length
  ·have e:(strs l)[j]'(by omega)=[.str l[j]]:=by simp [strs]
   have e':(strs m)[j]'(by omega)=[.str (m[j]'(by omega))]:=by simp [strs]
   by_cases h:l[j]=m[j]'(by omega)
   ·simp(disch:=omega)[e,e',h]
    exact RdN.mk (j+1) (by simp [hlm]) ⟨hj,by rw [List.take_add_one,List.take_add_one,k2,List.getElem?_eq_getElem hj,List.getElem?_eq_getElem Zo,h]⟩ Zo
   ·simp(disch:=omega)[e,e',h]
    rw [ZDy (by rintro rfl;exact h rfl)] at hQ
    exact hQ
  ·simp(disch:=omega)
   rw [List.take_of_length_le Zo,List.take_of_length_le Zo] at k2
   rw [ZDz k2] at hQ
   exact hQ
 ·simp(disch:=omega)[hlm,g0,g1]
  rw [ZDy (by rintro rfl;exact hlm rfl)] at hQ
  exact hQ
theorem ZOM (R:Has S) {a b:List (List Nat)} (h1:a.length<=9223372036854775807) (h2:b.length<=9223372036854775807) (hQ:Q [pb (dq (a=b))] []):Gives S ZHp [.one (.p (.sl 1 (strs a))),.one (.p (.sl 1 (strs b)))] [] Q:=by
 have e1:(strs a).length=a.length:=by simp [strs]
 have e2:(strs b).length=b.length:=by simp [strs]
 refine .code R.ZLW rfl ?_
 simp(disch:=omega)[ZHL]
 by_cases hl:a.length=b.length
 ·simp(disch:=omega)[hl]
  refine Lp.rule (fun (j:Nat)=>[(0,.a (.one (.p (.sl 1 (strs a))))),(1,.a (.one (.p (.sl 1 (strs b))))),(5,.a (pi j)),(9999,.objs [])]) (fun j=>j<=a.length/\a.take j=b.take j) (fun j=>a.length-j) (a₀:=0) Zs ⟨Nat.zero_le _,by simp⟩ ?_
  rintro j ⟨k1,k2⟩
  by_cases hj:j<a.length
  ·have hjb:j<b.length:=by omega
   have r1:=ZNT (l:=a) (j:=j) Zo
   have r2:=ZNT (l:=b) (j:=j) Zo
   by_cases he:a[j]=b[j]
   ·simp(disch:=omega)[r1,r2,he]
    exact RdN.mk (j+1) Zs ⟨hj,ZNr k2 hj hjb he⟩ Zo
   ·rw [ZDy (ZQI hj hjb he)] at hQ
    simp(disch:=omega)[r1,r2,he]
    exact hQ
  ·simp(disch:=omega)
   rw [ZDz (ZNl k2 Zo Zo)] at hQ
   exact hQ
 ·simp(disch:=omega)[hl]
  rw [ZDy fun h=>hl (by rw [h])] at hQ
  exact hQ
theorem ZIE {l:List (List Nat)} {j:Nat}:(strs l).take j=strs (l.take j):=by simp [strs]
def OvP (a b:Nd):Prop:=(pR a).op=74/\(pR b).op=74/\pO a=false/\pO b=false/\(pR a).s=(pR b).s/\(pP a).take (min (pP a).length (pP b).length)=(pP b).take (min (pP a).length (pP b).length)
theorem OvP.symm {a b:Nd}:OvP a b↔OvP b a:=by
 unfold OvP
 rw [Nat.min_comm (pP b).length]
 constructor<;>rintro ⟨h1,h2,h3,h4,h5,h6⟩<;>exact ⟨h2,h1,h4,h3,h5.symm,h6.symm⟩
theorem OvP.self {a:Nd}:OvP a a↔(pR a).op=74/\pO a=false:=by
 unfold OvP
 exact ⟨fun h=>⟨h.1,h.2.2.1⟩,fun h=>⟨h.1,h.1,h.2,h.2,rfl,rfl⟩⟩
theorem ZN7 (H:Has S) {a b:Nd} (ha:a.fw) (hb:b.fw) (pa:(pP a).length<=1000) (pb':(pP b).length<=1000) (hQ:Q [pb (dq (OvP a b))] []):Gives S ZG8 [.agg a.cs,.agg b.cs] [] Q:=by
 have no: ¬OvP a b->Q [pb false] []:=fun h=>by rwa [ZDy h] at hQ
 have g1:=ZHg (l:=pP a)
 have g2:=ZHg (l:=pP b)
 refine .code H.ZL1 rfl ?_
 simp(disch:=omega)[ZHK]
 refine ZJW H ha pa (fun h1=>?_) (fun h1=>?_)
 · simp(disch:=omega)
   refine ZJW H hb pb' (fun h2=>?_) (fun h2=>?_)
   · cases h3:pO a with
     | true=>
       simp(disch:=omega)
       exact no fun h=>by have:=h.2.2.1;rw [h3] at this;cases this
     | false=>
       cases h4:pO b with
       | true=>
         simp(disch:=omega)
         exact no fun h=>by have:=h.2.2.2.1;rw [h4] at this;cases this
       | false=>
         by_cases h5:(pR a).s=(pR b).s
         · simp(disch:=omega)[h5]
           have em:(if (strs (pP b)).length<(strs (pP a)).length then ((strs (pP b)).length:Int) else ((strs (pP a)).length:Int)).toNat=min (pP a).length (pP b).length:=by
             rw [g1,g2];split<;>omega
           rw [em,ZIE,ZIE]
           refine ZGw H Ze Ze ?_
           rw [ZOX (show OvP a b↔(pP a).take (min (pP a).length (pP b).length)=(pP b).take (min (pP a).length (pP b).length) from ⟨fun h=>h.2.2.2.2.2,fun h=>⟨h1,h2,h3,h4,h5,h⟩⟩)] at hQ
           simp(disch:=omega)
           exact hQ
         · simp(disch:=omega)[h5]
           exact no fun h=>h5 h.2.2.2.2.1
   · simp(disch:=omega)
     exact no fun h=>h2 h.2.1
 · simp(disch:=omega)
   by_cases h2:(pR b).op=74
   · refine ZJW H hb pb' (fun _=>?_) (fun h=>absurd h2 h)
     simp(disch:=omega)
     exact no fun h=>h1 h.1
   · refine ZJW H hb pb' (fun h=>absurd h h2) (fun _=>?_)
     simp(disch:=omega)
     exact no fun h=>h1 h.1
theorem ZOT (H:Has S) {p q:List (List Nat)} (hp:p.length<=1000) (hq:q.length<=1000) (hQ:Q [pb (dq (p.take (min p.length q.length)=q.take (min p.length q.length)))] []):Gives S ZHR [.one (.p (.sl 1 (strs p))),.one (.p (.sl 1 (strs q)))] [] Q:=by
 have g1:=ZHg (l:=p)
 have g2:=ZHg (l:=q)
 refine .code H.ZNC rfl ?_
 simp(disch:=omega)[ZIm]
 have em:(if (strs q).length<(strs p).length then ((strs q).length:Int) else ((strs p).length:Int)).toNat=min p.length q.length:=by
  rw [g1,g2];split<;>omega
 rw [em,ZIE,ZIE]
 refine ZOM H Ze Ze ?_
 simp(disch:=omega)
 exact hQ
theorem ZRx (H:Has S) {a b:Nd} (ha:a.fw) (hb:b.fw) (pa:(pP a).length<=1000) (pb':(pP b).length<=1000) (hQ:Q [pb (dq (OvP a b))] []):Gives S ZHQ [.agg a.cs,.agg b.cs] [] Q:=by
 have no: ¬OvP a b->Q [pb false] []:=fun h=>by rwa [ZDy h] at hQ
 refine .code H.ZNx rfl ?_
 simp(disch:=omega)[ZIo]
 refine ZJd H ha pa (fun h1=>?_) (fun h1=>?_)
 · simp(disch:=omega)
   refine ZJd H hb pb' (fun h2=>?_) (fun h2=>?_)
   · cases h3:pO a with
     | true=>
       simp(disch:=omega)
       exact no fun h=>by have:=h.2.2.1;rw [h3] at this;cases this
     | false=>
       cases h4:pO b with
       | true=>
         simp(disch:=omega)
         exact no fun h=>by have:=h.2.2.2.1;rw [h4] at this;cases this
       | false=>
         by_cases h5:(pR a).s=(pR b).s
         · simp(disch:=omega)[h5]
           refine ZOT H pa pb' ?_
           rw [ZOX (show OvP a b↔(pP a).take (min (pP a).length (pP b).length)=(pP b).take (min (pP a).length (pP b).length) from ⟨fun h=>h.2.2.2.2.2,fun h=>⟨h1,h2,h3,h4,h5,h⟩⟩)] at hQ
           simp(disch:=omega)
           exact hQ
         · simp(disch:=omega)[h5]
           exact no fun h=>h5 h.2.2.2.2.1
   · simp(disch:=omega)
     exact no fun h=>h2 h.2.1
 · simp(disch:=omega)
   by_cases h2:(pR b).op=74
   · refine ZJd H hb pb' (fun _=>?_) (fun h=>absurd h2 h)
     simp(disch:=omega)
     exact no fun h=>h1 h.1
   · refine ZJd H hb pb' (fun h=>absurd h h2) (fun _=>?_)
     simp(disch:=omega)
     exact no fun h=>h1 h.1
theorem ZRJ (H:Has S) (hN: ∀(x:Nd) (Q:List A->List (List C)->Prop),x.fw->(∀c:Int,(c<=1000->(pP x).length<=1000)->Q [pi c] [])->Gives S ZHq [.agg x.cs,pi 1001] [] Q)
  (hA: ∀Q:List A->List (List C)->Prop,Q [pb true] []->Gives S ZHi [] [] Q) {a b:Nd} (ha:a.fw) (hb:b.fw) (hQ:Q [pb true] []):Gives S ZG7 [.agg a.cs,.agg b.cs] [] Q:=by
 refine .code H.ZIz rfl ?_
 simp(disch:=omega)[ZHe]
 refine hN a _ ha fun c hc=>?_
 by_cases h1:c>1000
 ·simp(disch:=omega)[h1]
  refine hA _ ?_
  simp(disch:=omega)
  exact hQ
 have pa:=hc Zo
 simp(disch:=omega)[h1]
 refine hN b _ hb fun d hd=>?_
 by_cases h2:d>1000
 ·simp(disch:=omega)[h2]
  refine hA _ ?_
  simp(disch:=omega)
  exact hQ
 have pb':=hd Zo
 simp(disch:=omega)[h2]
 have es:dq (OvP b a)=dq (OvP a b):=ZOX OvP.symm
 refine ZJd H ha pa (fun h3=>?_) (fun h3=>?_)
 ·have ea:dq (OvP a a)= !pO a:=ZR2 ⟨fun h=>OvP.self.2 ⟨h3,by simpa using h⟩,fun h=>by rw [(OvP.self.1 h).2];rfl⟩
  simp(disch:=omega)
  refine ZN7 H ha hb pa pb' ?_
  simp(disch:=omega)
  refine ZRx H ha hb pa pb' ?_
  simp(disch:=omega)
  refine ZN7 H ha hb pa pb' ?_
  simp(disch:=omega)
  refine ZN7 H hb ha pb' pa ?_
  rw [es]
  simp(disch:=omega)
  refine ZN7 H ha ha pa pa ?_
  rw [ea]
  cases pO a
  all_goals
   simp(disch:=omega)
   refine hA _ ?_
   simp(disch:=omega)
   exact hQ
 ·have ea:dq (OvP a a)=false:=ZDy fun h=>h3 (OvP.self.1 h).1
  simp(disch:=omega)
  refine ZN7 H ha hb pa pb' ?_
  simp(disch:=omega)
  refine ZRx H ha hb pa pb' ?_
  simp(disch:=omega)
  refine ZN7 H ha hb pa pb' ?_
  simp(disch:=omega)
  refine ZN7 H hb ha pb' pa ?_
  rw [es]
  simp(disch:=omega)
  refine ZN7 H ha ha pa pa ?_
  rw [ea]
  simp(disch:=omega)
  refine hA _ ?_
  simp(disch:=omega)
  exact hQ
theorem ZON (H:Has S) {mo:Int} (m0:0<=mo) (m1:mo<=100000): ∀(nn:Nat) (t:Ty) (Q:List A->List (List C)->Prop),t.sz<nn->t.fw->(∀x:Int,(x<=mo↔(t.sz:Int)<=mo)->1<=x->x<=mo+1->(x<=mo->(t.sz:Int)=x)->Q [pi x] [])->Gives S ZcY [.agg t.cs,pi mo] [] Q
 | 0=>fun _ _ h=>absurd h (Nat.not_lt_zero _)
 | nn+1=>by
   intro t Q hm ht hQ
   have ih:=ZON H m0 m1 nn
   have g5:=Ty.fw_len ht
   have g6:(Ty.encs t.a).length=t.a.length:=Ty.encs_length
   have g7:=Ty.sz_eq (t:=t)
   refine .code H.Zrs rfl ?_
   simp(disch:=omega)[ZgV]
   refine Lp.rule (fun (b:Int×Nat)=>[(1,.a (pi mo)),(2,.a (.one (.ref ⟨true,10002,0⟩))),(5,.a (pi b.1)),(6,.a (pi b.2)),(9999,.objs []),(10002,.a (.agg t.cs))]) (fun b=>b.2<=t.a.length/\1<=b.1/\b.1<=2*mo+1/\(b.1<=mo->1+(Ty.szs (t.a.take b.2):Int)=b.1)/\(mo<b.1->mo<1+(Ty.szs (t.a.take b.2):Int))) (fun b=>t.a.length-b.2) (a₀:=(1,0)) Zs ⟨Nat.zero_le _,by simp,by dsimp only;omega,by simp [Ty.szs],by simp [Ty.szs]⟩ ?_
   rintro ⟨c,j⟩ ⟨k1,k2,k3,k4,k5⟩
   dsimp only at k1 k2 k3 k4 k5
   have q4:=Ty.szs_take_le (l:=t.a) (j:=j)
   by_cases hj:j<t.a.length
   · have e:=Ty.encs_get (l:=t.a) (j:=j) Zo
     have q:=Ty.fws_get (Ty.fw_a ht) hj
     have q2:=Ty.szs_get hj
     have q3:=Ty.szs_take hj
     by_cases hc:c<=mo
     · have k6:=k4 hc
       simp(disch:=omega)[e,hc]
       refine ih _ _ Zo q fun x x0 x1 x2 x3=>?_
       simp(disch:=omega)
       refine RdN.mk (_,j+1) rfl ⟨hj,by dsimp only;omega,by dsimp only;omega,fun h=>?_,fun h=>?_⟩ Zm
       all_goals
         dsimp only at h⊢
         rw [q3]
         by_cases hx:x<=mo
         · have:=x3 hx;omega
         · have: ¬(t.a[j].sz:Int)<=mo:=fun h=>hx (x0.2 h)
           omega
     · have k6:=k5 Zo
       simp(disch:=omega)[hc]
       refine hQ _ ⟨fun h=>by omega,fun h=>by omega⟩ Zo Zo Zo
   · have k6:t.a.take j=t.a:=List.take_of_length_le Zo
     rw [k6] at k4 k5
     simp(disch:=omega)
     refine hQ _ ⟨fun h=>?_,fun h=>?_⟩ Zo Zo fun h=>?_
     · have:=k4 Zo;omega
     · rcases Int.lt_or_le mo c with h'|h'
       · have:=k5 h';omega
       · omega
     · have:=k4 Zo;omega
theorem ZKJ: ∀(k:Nat) (y:Nd),y.dp<=k->plc k y=plc y.dp y
  | 0,y,h=>by cases y;simp [Nd.dp] at h
  | k+1,y,h=>by
    by_cases hh:y.op=75/\y.l.length=1
    · have hd:=Nd.dp_l (x:=y)
      have hd2:=Nd.dps_get (l:=y.l) (j:=0) Zo
      obtain ⟨m,hm⟩: ∃m,y.dp=m+1:=⟨y.dp-1,by omega⟩
      rw [hm,ZIY hh.1 hh.2,ZIY hh.1 hh.2,ZKJ k _ Zo,ZKJ m _ Zo]
    · rw [ZI4 hh,ZI4 hh]
termination_by k=>k
decreasing_by all_goals omega
theorem ZPb (x:Nd):(pP x).length=0∨ ∃h:0<x.l.length,x.l.length=1/\(pP x).length=(pP x.l[0]).length+1:=by
 by_cases hh:x.op=75/\x.l.length=1
 ·have hd:=Nd.dp_l (x:=x)
  have hd2:=Nd.dps_get (l:=x.l) (j:=0) Zo
  obtain ⟨m,hm⟩: ∃m,x.dp=m+1:=⟨x.dp-1,by omega⟩
  refine .inr ⟨by omega,hh.2,?_⟩
  unfold pP
  rw [hm,ZIY hh.1 hh.2,ZKJ m _ Zo]
  simp
 ·left
  unfold pP
  rw [ZI4 hh];rfl
theorem ZLD (H:Has S): ∀(nn:Nat) (x:Nd) (Q:List A->List (List C)->Prop),x.dp<nn->x.fw->(∀c:Int,1<=c->c<=1002->(c<=1001->((pP x).length:Int)+1<=c)->Q [pi c] [])->Gives S ZHq [.agg x.cs,pi 1001] [] Q
 | 0=>fun _ _ h=>absurd h (Nat.not_lt_zero _)
 | nn+1=>by
   intro x Q hm hx hQ
   have ih:=ZLD H nn
   have g1:=Nd.fw_len hx
   have g2:=Nd.encs_length (l:=x.l)
   have g3:=(Nd.fw_ts hx).1
   have g4:=Ty.encs_length (l:=x.ts)
   have g5:=Nd.fw_s hx
   have g6:=Nd.dp_l (x:=x)
   have et:(x.s.length:Int).tdiv 16=((x.s.length / 16:Nat):Int):=by
     rw [Int.tdiv_eq_ediv_of_nonneg Zo];omega
   obtain ⟨d,hd⟩: ∃d,d=x.s.length / 16:=⟨_,rfl⟩
   rw [<-hd] at et
   have hd2:d<=576460752303423488:=by omega
   refine .code H.ZPt rfl ?_
   simp(disch:=omega)[ZJI,et]
   refine Lp.rule (fun (b:Int×Nat)=>[(1,.a (pi 1001)),(2,.a (.one (.ref ⟨true,10002,0⟩))),(5,.a (pi b.1)),(6,.a (pi b.2)),(9999,.objs []),(10002,.a (.agg x.cs))]) (fun b=>b.2<=x.ts.length/\1<=b.1/\b.1<=1152921504606846976) (fun b=>x.ts.length-b.2) (a₀:=(1+d,0)) Zs ⟨Nat.zero_le _,by dsimp only;omega,by dsimp only;omega⟩ ?_
   rintro ⟨c,j⟩ ⟨k1,k2,k3⟩
   dsimp only at k1 k2 k3
   by_cases hlp:j<x.ts.length/\c<=1001
   · obtain ⟨hj,hc⟩:=hlp
     have e:=Ty.encs_get (l:=x.ts) (j:=j) Zo
     simp(disch:=omega)[e,hc]
     refine ZON H Zd Zd _ _ _ (Nat.lt_succ_self _) (Ty.fws_get (Nd.fw_ts hx).2 hj) fun y _ y1 y2 _=>?_
     simp(disch:=omega)
     exact RdN.mk (c+y,j+1) rfl ⟨hj,by dsimp only;omega,by dsimp only;omega⟩ Zm
   · by_cases hj:j<x.ts.length
     · have hc: ¬c<=1001:=fun h=>hlp ⟨hj,h⟩
       simp(disch:=omega)[hc]
       refine Lp.rule (fun (b:Int×Nat)=>[(1,.a (pi 1001)),(2,.a (.one (.ref ⟨true,10002,0⟩))),(5,.a (pi b.1)),(7,.a (pi b.2)),(9999,.objs []),(10002,.a (.agg x.cs))]) (fun b=>b.2<=x.l.length/\1<=b.1/\b.1<=2305843009213693952/\(b.1<=1001-> ∀(i:Nat) (h:i<x.l.length),i<b.2->((pP x.l[i]).length:Int)+2<=b.1)) (fun b=>x.l.length-b.2) (a₀:=(c,0)) Zs ⟨Nat.zero_le _,by dsimp only;omega,by dsimp only;omega,fun _ i _ h=>absurd h (Nat.not_lt_zero _)⟩ ?_
       rintro ⟨e,m⟩ ⟨m1,m2,m3,m4⟩
       dsimp only at m1 m2 m3 m4
       have fin:(e<=1001->m=x.l.length)->Q [pi (if (1002:Int)<e then 1002 else e)] []:=fun h=>by
         refine hQ _ (by split<;>omega) (by split<;>omega) fun h1=>?_
         have h2:e<=1001:=by split at h1<;>omega
         have h3:=h h2
         rw [if_neg Zo]
         rcases ZPb x with h4|⟨h4,h5,h6⟩
         · omega
         · have:=m4 h2 0 h4 Zo
           omega
       by_cases hm1:m<x.l.length
       · by_cases hm2:e<=1001
         · have e1:=Nd.encs_get (l:=x.l) (j:=m) Zo
           have q1:=Nd.dps_get hm1
           simp(disch:=omega)[e1,hm2]
           refine ih _ _ Zo (Nd.fws_get (Nd.fw_l hx) hm1) fun y y1 y2 y3=>?_
           simp(disch:=omega)
           refine RdN.mk (e+y,m+1) rfl ⟨hm1,by dsimp only;omega,by dsimp only;omega,fun h i hi him=>?_⟩ Zm
           dsimp only at h him⊢
           rcases Nat.lt_or_ge i m with h'|h'
           · have:=m4 hm2 i hi h';omega
           · obtain rfl:i=m:=by omega
             have:=y3 Zo;omega
         · simp(disch:=omega)[hm2]
           exact fin Zo
       · simp(disch:=omega)
         exact fin Zo
     · by_cases hc:c<=1001
       · simp(disch:=omega)[hc]
         refine ZON H Zd Zd _ _ _ (Nat.lt_succ_self _) (Nd.fw_t hx) fun y _ y1 y2 _=>?_
         simp(disch:=omega)
         refine Lp.rule (fun (b:Int×Nat)=>[(1,.a (pi 1001)),(2,.a (.one (.ref ⟨true,10002,0⟩))),(5,.a (pi b.1)),(7,.a (pi b.2)),(9999,.objs []),(10002,.a (.agg x.cs))]) (fun b=>b.2<=x.l.length/\1<=b.1/\b.1<=2305843009213693952/\(b.1<=1001-> ∀(i:Nat) (h:i<x.l.length),i<b.2->((pP x.l[i]).length:Int)+2<=b.1)) (fun b=>x.l.length-b.2) (a₀:=(c+y-1,0)) Zs ⟨Nat.zero_le _,by dsimp only;omega,by dsimp only;omega,fun _ i _ h=>absurd h (Nat.not_lt_zero _)⟩ ?_
         rintro ⟨e,m⟩ ⟨m1,m2,m3,m4⟩
         dsimp only at m1 m2 m3 m4
         have fin:(e<=1001->m=x.l.length)->Q [pi (if (1002:Int)<e then 1002 else e)] []:=fun h=>by
           refine hQ _ (by split<;>omega) (by split<;>omega) fun h1=>?_
           have h2:e<=1001:=by split at h1<;>omega
           have h3:=h h2
           rw [if_neg Zo]
           rcases ZPb x with h4|⟨h4,h5,h6⟩
           · omega
           · have:=m4 h2 0 h4 Zo
             omega
         by_cases hm1:m<x.l.length
         · by_cases hm2:e<=1001
           · have e1:=Nd.encs_get (l:=x.l) (j:=m) Zo
             have q1:=Nd.dps_get hm1
             simp(disch:=omega)[e1,hm2]
             refine ih _ _ Zo (Nd.fws_get (Nd.fw_l hx) hm1) fun y y1 y2 y3=>?_
             simp(disch:=omega)
             refine RdN.mk (e+y,m+1) rfl ⟨hm1,by dsimp only;omega,by dsimp only;omega,fun h i hi him=>?_⟩ Zm
             dsimp only at h him⊢
             rcases Nat.lt_or_ge i m with h'|h'
             · have:=m4 hm2 i hi h';omega
             · obtain rfl:i=m:=by omega
               have:=y3 Zo;omega
           · simp(disch:=omega)[hm2]
             exact fin Zo
         · simp(disch:=omega)
           exact fin Zo
       · simp(disch:=omega)[hc]
         refine Lp.rule (fun (b:Int×Nat)=>[(1,.a (pi 1001)),(2,.a (.one (.ref ⟨true,10002,0⟩))),(5,.a (pi b.1)),(7,.a (pi b.2)),(9999,.objs []),(10002,.a (.agg x.cs))]) (fun b=>b.2<=x.l.length/\1<=b.1/\b.1<=2305843009213693952/\(b.1<=1001-> ∀(i:Nat) (h:i<x.l.length),i<b.2->((pP x.l[i]).length:Int)+2<=b.1)) (fun b=>x.l.length-b.2) (a₀:=(c,0)) Zs ⟨Nat.zero_le _,by dsimp only;omega,by dsimp only;omega,fun _ i _ h=>absurd h (Nat.not_lt_zero _)⟩ ?_
         rintro ⟨e,m⟩ ⟨m1,m2,m3,m4⟩
         dsimp only at m1 m2 m3 m4
         have fin:(e<=1001->m=x.l.length)->Q [pi (if (1002:Int)<e then 1002 else e)] []:=fun h=>by
           refine hQ _ (by split<;>omega) (by split<;>omega) fun h1=>?_
           have h2:e<=1001:=by split at h1<;>omega
           have h3:=h h2
           rw [if_neg Zo]
           rcases ZPb x with h4|⟨h4,h5,h6⟩
           · omega
           · have:=m4 h2 0 h4 Zo
             omega
         by_cases hm1:m<x.l.length
         · by_cases hm2:e<=1001
           · have e1:=Nd.encs_get (l:=x.l) (j:=m) Zo
             have q1:=Nd.dps_get hm1
             simp(disch:=omega)[e1,hm2]
             refine ih _ _ Zo (Nd.fws_get (Nd.fw_l hx) hm1) fun y y1 y2 y3=>?_
             simp(disch:=omega)
             refine RdN.mk (e+y,m+1) rfl ⟨hm1,by dsimp only;omega,by dsimp only;omega,fun h i hi him=>?_⟩ Zm
             dsimp only at h him⊢
             rcases Nat.lt_or_ge i m with h'|h'
             · have:=m4 hm2 i hi h';omega
             · obtain rfl:i=m:=by omega
               have:=y3 Zo;omega
           · simp(disch:=omega)[hm2]
             exact fin Zo
         · simp(disch:=omega)
           exact fin Zo
theorem ZPH (H:Has S) {x:Nd} (hx:x.fw) (hQ: ∀c:Int,(c<=1000->(pP x).length<=1000)->Q [pi c] []):Gives S ZHq [.agg x.cs,pi 1001] [] Q:=
 ZLD H _ x Q (Nat.lt_succ_self _) hx fun c _ _ h=>hQ c fun h1=>by have:=h Zo;omega
end Go.Am.Fe
end
