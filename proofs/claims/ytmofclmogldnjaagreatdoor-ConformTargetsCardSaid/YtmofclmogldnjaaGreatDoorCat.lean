/- Part. -/
import Derived.Test.YtmofclmogldnjaaGreatDoorCah
import Derived.Test.YtmofclmogldnjaaGreatDoorCao
set_option maxRecDepth 999999
set_option maxHeartbeats 0
set_option linter.all false
def yB:=@List.idxOf?_cons
section
namespace Go.Am.Fe
variable {S:SF} {Q:QF}
attribute [local simp] ZbO if_pos if_neg decide_eq_true decide_eq_false Yi Yj ZgF Ops.callv
open Tx in
def idxC (s:Nat):SFunc:=⟨2,[],[.tmp 4],
 (q (r [mv (n 0) 4])
 (q (q (r [m 0 6,le 6 7,mv (n 0) 8])
 (k 0 (lo [0,1,7,8,9999] (q (r [o ls [v 8,v 7] 9])
 (q (i 9 e (ex 0))
 (q (k 1 (q (r [m 8 10,m 10 5])
 (q (r [m 1 11,m 0 12,m 5 13,ix s 12 (v 13) 14,ls2 s 14 15,cv 1 [v 11,v 15,v 9999] 16])
 (i 16 (q (r [m 5 17,m 17 4])
 .ret) e))))
 (r [o ad [v 8,n 1] 18,m 18 8])))))))
 (q (r [mv (n (-1)) 4])
 .ret)))⟩
def ZF4 {r:List P} {s:Nat} (h:r.length=s):List.take s (r.map C.p)=r.map C.p:=Yg Ze
def ZFW {α:Type} {N s:Nat} (hN:S N=some (.code (idxC s))) {f:Nat} {first caps:List R} {os:List LC} {l:List α} {w:α->List P} (hl:l.length<=100000) (hs: ∀x∈l,(w x).length=s) (ho:Pass os) (h1:PassR os.length first) (h2:PassR os.length caps)
  {p:α->Bool} (hp: ∀x∈l,∀Q,Q [pb (p x)] os->Gives S f (ZDB first caps [.agg ((w x).map .p)]) os Q) (hQ0:(∀x∈l,p x=false)->Q [pi (-1)] os) (hQ1: ∀j:Nat,(h:j<l.length)->p l[j]=true->(∀x∈l.take j,p x=false)->Q [pi j] os):
  Gives S N [.one (.p (.sl s (l.map w))),.one (.clo f first caps)] os Q:=by
 refine .code hN rfl ?_;simp(disch:=omega)[idxC];refine Lp.rule (fun (j:Nat)=>[(0,.a (.one (.p (.sl s (l.map w))))),(1,.a (.one (.clo f first caps))),(7,.a (pi l.length)),(8,.a (pi j)),(9999,.objs os)]) (fun j=>j<=l.length/\ ∀r∈l.take j,p r=false) (fun j=>l.length-j) (a₀:=0) Zs ⟨Yd _,by simp⟩ ?_;rintro j ⟨k1,k2⟩;by_cases hj:j<l.length
 · have hm:=Yl hj;have e:=hs _ hm;simp(disch:=omega)[ZF4 e,ZFi h1 h2,ho.down,ho.up];refine hp _ hm _ ?_;cases hb:p l[j]
   ·simp(disch:=omega)[ho.up,ho.fin];refine RdN.mk (j+1) rfl ⟨hj,fun r hr=>?_⟩ Zo;rw [Ym,Ya hj,Ys] at hr;rcases hr with hr|hr
    ·exact k2 r hr
    ·simp at hr;rw [hr];exact hb
   ·simp(disch:=omega)[ho.up,ho.fin];exact hQ1 j hj hb k2
 · simp(disch:=omega)[ho.fin];rw [Yg Zo] at k2;exact hQ0 k2
open Tx in
def conC (g:Nat):SFunc:=⟨2,[],[.tmp 4],
 (q (r [mv (b false) 4])
 (q (r [mt 0 5,m 1 6,cp g 2 [v 5,v 6,v 9999] 7,o ge [v 7,n 0] 8,m 8 4])
 .ret))⟩
def ZFa {α:Type} {N M s:Nat} (hN:S N=some (.code (conC M))) (hM:S M=some (.code (idxC s))) {f:Nat} {first caps:List R} {os:List LC} {l:List α} {w:α->List P} (hl:l.length<=100000) (hs: ∀x∈l,(w x).length=s) (ho:Pass os) (h1:PassR os.length first) (h2:PassR os.length caps)
  {p:α->Bool} (hp: ∀x∈l,∀Q,Q [pb (p x)] os->Gives S f (ZDB first caps [.agg ((w x).map .p)]) os Q) (hQ:Q [pb (l.any p)] os):
  Gives S N [.one (.p (.sl s (l.map w))),.one (.clo f first caps)] os Q:=by
 refine .code hN rfl ?_;simp(disch:=omega)[conC,ZFh h1 h2,ho.down,ho.up];refine ZFW hM hl hs ho h1 h2 hp (fun h=>?_) (fun j hj h h'=>?_)
 · rw [show l.any p=false from by simpa using h] at hQ;simp(disch:=omega)[ho.up,ho.fin];exact hQ
 · rw [show l.any p=true from List.any_eq_true.2 ⟨_,Yl hj,h⟩] at hQ;simp(disch:=omega)[ho.up,ho.fin];exact hQ
end Go.Am.Fe
end
section
namespace Go.Am.Fe
attribute [local simp] Ty.encs_length
def Ty.encs_get {l:List Ty} {j:Nat} (h:j<(Ty.encs l).length):(Ty.encs l)[j]=(l[j]'(by simpa using h)).row:=by
 simp only [Ty.encs_rows,List.getElem_map]
def Ok {α:Type} (p:α->Prop) (l:List α):Prop:=l.length<=100000/\ ∀x∈l,p x
def Ok.get {α:Type} {p:α->Prop} {l:List α} (h:Ok p l) {j:Nat} (hj:j<l.length):p l[j]:=h.2 _ (Yl hj)
mutual
def Ty.fw:Ty->Prop
 | .mk _ _ _ args=>args.length<=100000/\Ty.fws args
def Ty.fws:List Ty->Prop
 | []=>True
 | t::l=>t.fw/\Ty.fws l
end
mutual
def Ty.fv:Ty->Prop
 | .mk _ _ _ args=>args.length<=9223372036854775807/\Ty.fvs args
def Ty.fvs:List Ty->Prop
 | []=>True
 | t::l=>t.fv/\Ty.fvs l
end
mutual
def Ty.fit_fw: ∀(t:Ty),t.fit->t.fw
 | .mk _ _ _ a,h=>⟨h.2.1,Ty.fits_fw a h.2.2.2⟩
def Ty.fits_fw: ∀(l:List Ty),Ty.fits l->Ty.fws l
 | [],_=>trivial
 | t::l,h=>⟨Ty.fit_fw t h.1,Ty.fits_fw l h.2⟩
end
mutual
def Ty.fw_fv: ∀(t:Ty),t.fw->t.fv
 | .mk _ _ _ a,h=>⟨Yy h.1 Zd,Ty.fws_fvs a h.2⟩
def Ty.fws_fvs: ∀(l:List Ty),Ty.fws l->Ty.fvs l
 | [],_=>trivial
 | t::l,h=>⟨Ty.fw_fv t h.1,Ty.fws_fvs l h.2⟩
end
mutual
def Ty.sz_fw: ∀(t:Ty),t.sz<=100000->t.fw
  | .mk _ _ _ a,h=>by
    have hs:1+Ty.szs a<=100000:=h;have:=Ty.len_le (a:=a);exact ⟨by omega,Ty.szs_fws a Zo⟩
def Ty.szs_fws: ∀(l:List Ty),Ty.szs l<=100000->Ty.fws l
  | [],_=>trivial
  | t::l,h=>by
    have hs:t.sz+Ty.szs l<=100000:=h;exact ⟨Ty.sz_fw t Zo,Ty.szs_fws l Zo⟩
end
def Ty.fws_get: ∀{l:List Ty} {j:Nat} (_:Ty.fws l) (h:j<l.length),l[j].fw
 | t::l,0,hf,_=>hf.1
 | t::l,j+1,hf,h=>Ty.fws_get (l:=l) hf.2 (by simpa using h)
def Ty.fvs_get: ∀{l:List Ty} {j:Nat} (_:Ty.fvs l) (h:j<l.length),l[j].fv
 | t::l,0,hf,_=>hf.1
 | t::l,j+1,hf,h=>Ty.fvs_get (l:=l) hf.2 (by simpa using h)
def Ty.szs_get: ∀{l:List Ty} {j:Nat} (h:j<l.length),l[j].sz<=Ty.szs l
 | t::l,0,_=>by simp [Ty.szs]
 | t::l,j+1,h=>by have:=Ty.szs_get (l:=l) (j:=j) (by simpa using h);simp [Ty.szs];omega
def Ty.fw_len {t:Ty} (h:t.fw):t.a.length<=100000:=by cases t;exact h.1
def Ty.fw_a {t:Ty} (h:t.fw):Ty.fws t.a:=by cases t;exact h.2
def Ty.fv_len {t:Ty} (h:t.fv):t.a.length<=9223372036854775807:=by cases t;exact h.1
def Ty.fv_a {t:Ty} (h:t.fv):Ty.fvs t.a:=by cases t;exact h.2
def Ty.sz_a {t:Ty}:t.sz=1+Ty.szs t.a:=by cases t;rfl
def Ty.mem_fvs: ∀{l:List Ty},(∀t∈l,t.fv)->Ty.fvs l
 | [],_=>trivial
 | t::l,h=>⟨h t Yr,Ty.mem_fvs fun u hu=>h u (Yk _ hu)⟩
def Ty.szs_take {l:List Ty} {j:Nat} (hj:j<l.length):Ty.szs (l.take (j+1))=Ty.szs (l.take j)+l[j].sz:=by
 induction l generalizing j with
 | nil=>simp at hj
 | cons t l ih=>
   cases j with
   | zero=>simp [Ty.szs]
   | succ j=>simp only [List.take_succ_cons,Ty.szs,List.getElem_cons_succ];rw [ih (by simpa using hj)];omega
structure Pa where
 s:List Nat
 o:Int
 t:Ty
structure Me where
 s:List Nat
 ps:List Pa
 r:Ty
 e:Ty
structure As where
 s:List Nat
 bs:List (List Nat)
structure Pr where
 s:List Nat
 as:List As
 ms:List Me
abbrev Pa.row (x:Pa):List P:=[.str x.s,.int .i64 x.o,.int .i64 x.t.k,.str x.t.s,.int .i64 x.t.n,.sl 4 (Ty.encs x.t.a)]
abbrev Me.row (x:Me):List P:=[.str x.s,.sl 6 (x.ps.map Pa.row),.int .i64 x.r.k,.str x.r.s,.int .i64 x.r.n,.sl 4 (Ty.encs x.r.a),.int .i64 x.e.k,.str x.e.s,.int .i64 x.e.n,.sl 4 (Ty.encs x.e.a)]
abbrev As.row (x:As):List P:=[.str x.s,.sl 1 (strs x.bs)]
abbrev Pr.row (x:Pr):List P:=[.str x.s,.sl 2 (x.as.map As.row),.sl 10 (x.ms.map Me.row)]
def Pa.ok (x:Pa):Prop:=x.t.fw
def Me.ok (x:Me):Prop:=Ok Pa.ok x.ps/\x.r.fw/\x.e.fw
def As.ok (x:As):Prop:=x.bs.length<=100000
def Pr.ok (x:Pr):Prop:=Ok As.ok x.as/\Ok Me.ok x.ms
abbrev Pr.zero:Pr:=⟨[],[],[]⟩
theorem RowsOf.lift {α:Type} {R:List P->Prop} {row:α->List P} {p:α->Prop} {l:List (List P)} (h:RowsOf R l) (hR: ∀r,R r-> ∃x,row x=r/\p x): ∃L:List α,L.map row=l/\Ok p L:=by
 obtain ⟨h1,h2⟩:=h
 suffices∃L:List α,L.map row=l/\ ∀x∈L,p x by
   obtain ⟨L,e,hp⟩:=this;exact ⟨L,e,by rw [<-e,Yh] at h1;exact h1,hp⟩
 clear h1
 induction l with
 | nil=>exact ⟨[],rfl,fun _ h=>nomatch h⟩
 | cons r l ih=>
   obtain ⟨L,e,hp⟩:=ih fun x hx=>h2 x (Yk _ hx);obtain ⟨x,ex,hx⟩:=hR r (h2 r Yr);exact ⟨x::L,by simp [e,ex],fun y hy=>(List.mem_cons.1 hy).elim (fun h=>h ▸ hx) (hp y)⟩
def FTy.lift {m:Nat} {k n:Int} {s:List Nat} {a:List (List P)} (h:FTy m [.int .i64 k,.str s,.int .i64 n,.sl 4 a]): ∃t:Ty,t.fw/\t.k=k/\t.s=s/\t.n=n/\Ty.encs t.a=a:=by
 obtain ⟨⟨k',s',n',a'⟩,e,h1,_⟩:=h;simp only [Ty.enc,Yf,P.int.injEq,P.str.injEq,P.sl.injEq,true_and,and_true] at e;obtain ⟨rfl,rfl,rfl,rfl⟩:=e;exact ⟨_,Ty.fit_fw _ h1,rfl,rfl,rfl,rfl⟩
def PaR.lift (r:List P) (h:PaR r): ∃x:Pa,x.row=r/\x.ok:=by
 obtain ⟨m,s,o,k,n,u,a,rfl,h1,h2⟩:=h;obtain ⟨t,ht,rfl,rfl,rfl,rfl⟩:=h2.lift;exact ⟨⟨s,o,t⟩,rfl,ht⟩
def MeR.lift (r:List P) (h:MeR r): ∃x:Me,x.row=r/\x.ok:=by
 obtain ⟨m1,m2,s,ps,k1,n1,k2,n2,s1,s2,a1,a2,rfl,h1,h2,h3,h4⟩:=h;obtain ⟨L,rfl,hL⟩:=h2.lift PaR.lift;obtain ⟨t,ht,rfl,rfl,rfl,rfl⟩:=h3.lift;obtain ⟨v,hv,rfl,rfl,rfl,rfl⟩:=h4.lift;exact ⟨⟨s,L,t,v⟩,rfl,hL,ht,hv⟩
def AsR.lift (r:List P) (h:AsR r): ∃x:As,x.row=r/\x.ok:=by
 obtain ⟨s,bs,rfl,h1,h2⟩:=h;exact ⟨⟨s,bs⟩,rfl,h2.1⟩
def PrR.lift (r:List P) (h:PrR r): ∃x:Pr,x.row=r/\x.ok:=by
 obtain ⟨s,as,ms,rfl,h1,h2,h3⟩:=h;obtain ⟨L,rfl,hL⟩:=h2.lift AsR.lift;obtain ⟨M,rfl,hM⟩:=h3.lift MeR.lift;exact ⟨⟨s,L,M⟩,rfl,hL,hM⟩
def RowsOf.prs {l:List (List P)} (h:RowsOf PrR l): ∃L:List Pr,L.map Pr.row=l/\Ok Pr.ok L:=h.lift PrR.lift
structure HN (S:Nat->Option Fn) (aw:Nat):Prop extends HasL S where
 clo: ∀{Q:List A->List (List C)->Prop} {l:List (List P)},l.length<=2147483648->Q [.one (.p (.sl 4 l))] []->Gives S ZHe [.one (.p (.sl 4 l))] [] Q
 aw: ∀{Q:List A->List (List C)->Prop},Q [pb true] []->Gives S aw [] [] Q
end Go.Am.Fe
end
section
namespace Go.Am.Fe
variable {S:Nat->Option Fn} {Q:List A->List (List C)->Prop}
attribute [local simp] ZbO if_pos if_neg decide_eq_true decide_eq_false Yi Yj ZgF Ops.callv yB Ty.encs_length
def At {α:Type} (f:α->List Nat) (l:List α) (s:List Nat) (j:Nat):Prop:= ∃h:j<l.length,f l[j]=s/\ ∀x∈l.take j,f x≠s
def ZEj {α:Type} {p:α->Prop} {l:List α} {j:Nat} (hj:j<l.length) (h: ∀x∈l.take j,p x) (h':p l[j]): ∀x∈l.take (j+1),p x:=fun x hx=>by
 rw [Ym,Ya hj,Ys] at hx;rcases hx with hx|hx
 ·exact h x hx
 ·simp at hx;rw [hx];exact h'
abbrev mo (n c f:List (List P)) (ps:List Pr):List C:=[.p (.sl 17 n),.p (.sl 3 (ps.map Pr.row)),.p (.sl 9 c),.p (.sl 22 f)]
def ZDS (H:HasL S) {n c f:List (List P)} {l:List Pr} {s:List Nat} (hn:l.length<=100000) (hQ0:(∀x∈l,x.s≠s)->Q [.agg (Pr.zero.row.map .p),pi 0,pb false] []) (hQ1: ∀j:Nat,(h:At Pr.s l s j)->Q [.agg ((l[j]'h.1).row.map .p),pi j,pb true] []):
  Gives S Zfr [.agg (mo n c f l),ps s] [] Q:=by
 refine .code H.tableProtocol rfl ?_;simp(disch:=omega)[ZlX];refine Lp.rule (fun (j:Nat)=>[(1,.a (ps s)),(4,.a (.one (.ref ⟨true,10004,0⟩))),(10,.a (.one (.p (.sl 3 (l.map Pr.row))))),(11,.a (pi l.length)),(12,.a (pi j)),(9999,.objs []),(10004,.a (.agg [.p (.str []),.tip 2 [],.tip 10 []]))]) (fun j=>j<=l.length/\ ∀x∈l.take j,x.s≠s) (fun j=>l.length-j) (a₀:=0) Zs ⟨Yd _,by simp⟩ ?_;rintro j ⟨k1,k2⟩;by_cases hj:j<l.length
 ·by_cases hs:l[j].s=s
  ·subst hs;simp(disch:=omega);exact hQ1 j ⟨hj,rfl,k2⟩
  ·simp(disch:=omega)[hs];exact RdN.mk (j+1) rfl ⟨hj,ZEj hj k2 hs⟩ Zo
 ·simp(disch:=omega);rw [Yg Zo] at k2;exact hQ0 k2
def ZLm (H:HasL S) {n c f:List (List P)} {l:List Pr} {s:List Nat} (hn:l.length<=100000) (hQ0:(∀x∈l,x.s≠s)->Q [pi (-1)] []) (hQ1: ∀j:Nat,(h:At Pr.s l s j)->Q [pi j] []):
  Gives S ZHu [.agg (mo n c f l),ps s] [] Q:=by
 refine .code H.zfProtocol rfl ?_;simp(disch:=omega)[ZH2];refine Lp.rule (fun (j:Nat)=>[(1,.a (ps s)),(2,.a (.one (.ref ⟨true,10002,0⟩))),(5,.a (pi j)),(9999,.objs []),(10002,.a (.agg (mo n c f l)))]) (fun j=>j<=l.length/\ ∀x∈l.take j,x.s≠s) (fun j=>l.length-j) (a₀:=0) Zs ⟨Yd _,by simp⟩ ?_;rintro j ⟨k1,k2⟩;by_cases hj:j<l.length
 ·by_cases hs:l[j].s=s
  ·subst hs;simp(disch:=omega);exact hQ1 j ⟨hj,rfl,k2⟩
  ·simp(disch:=omega)[hs];exact RdN.mk (j+1) rfl ⟨hj,ZEj hj k2 hs⟩ Zo
 ·simp(disch:=omega);rw [Yg Zo] at k2;exact hQ0 k2
end Go.Am.Fe
end
section
namespace Go.Am.Fe
variable {S:Nat->Option Fn} {Q:List A->List (List C)->Prop}
attribute [local simp] ZbO if_pos if_neg decide_eq_true decide_eq_false Yi Yj ZgF Ops.callv yB
def ZNA (H:Has S) {mo:Int} (m0:0<=mo) (m1:mo<=100000): ∀(nn:Nat) (t:Ty) (Q:List A->List (List C)->Prop),t.sz<nn->t.fv->(∀x:Int,1<=x->x<=mo+1->(x<=mo->(t.sz:Int)<=x)->Q [pi x] [])->Gives S ZcY [.agg t.cs,pi mo] [] Q
 | 0=>fun _ _ h=>absurd h (YI _)
 | nn+1=>by
   intro t Q hm ht hQ;have ih:=ZNA H m0 m1 nn;have g5:=Ty.fv_len ht;have g6:(Ty.encs t.a).length=t.a.length:=Ty.encs_length;have g7:=Ty.sz_a (t:=t);refine .code H.Zrs rfl ?_;simp(disch:=omega)[ZgV];refine Lp.rule (fun (b:Int×Nat)=>[(1,.a (pi mo)),(2,.a (.one (.ref ⟨true,10002,0⟩))),(5,.a (pi b.1)),(6,.a (pi b.2)),(9999,.objs []),(10002,.a (.agg t.cs))]) (fun b=>b.2<=t.a.length/\1<=b.1/\b.1<=2*mo+1/\(b.1<=mo->1+(Ty.szs (t.a.take b.2):Int)<=b.1)) (fun b=>t.a.length-b.2) (a₀:=(1,0)) Zs ⟨Yd _,by simp,by dsimp only;omega,by simp [Ty.szs]⟩ ?_;rintro ⟨c,j⟩ ⟨k1,k2,k3,k4⟩;dsimp only at k1 k2 k3 k4;by_cases hj:j<t.a.length
   · have e:=Ty.encs_get (l:=t.a) (j:=j) Zo;have q:=Ty.fvs_get (Ty.fv_a ht) hj;have q2:=Ty.szs_get hj;have q3:=Ty.szs_take hj;by_cases hc:c<=mo
     · have k5:=k4 hc;simp(disch:=omega)[e,hc];refine ih _ _ Zo q fun x x1 x2 x3=>?_;simp(disch:=omega);refine RdN.mk (_,j+1) rfl ⟨hj,by dsimp only;omega,by dsimp only;omega,fun h=>?_⟩ Zm;dsimp only at h⊢;have:=x3 Zo;rw [q3];omega
     · simp(disch:=omega)[hc];exact hQ _ Zo Zo Zo
   · have k6:t.a.take j=t.a:=Yg Zo;rw [k6] at k4;simp(disch:=omega);refine hQ _ Zo Zo fun h=>?_;have:=k4 Zo;omega
def tn_g (H:Has S) {mo:Int} (m0:0<=mo) (m1:mo<=100000) {t:Ty} (ht:t.fv) (hQ: ∀x:Int,1<=x->x<=mo+1->(x<=mo->(t.sz:Int)<=x)->Q [pi x] []):Gives S ZcY [.agg t.cs,pi mo] [] Q:=ZNA H m0 m1 _ t Q (Yz _) ht hQ
def EqS (S:Nat->Option Fn) (n:Nat):Prop:= ∀(t:Ty) (Q:List A->List (List C)->Prop),t.sz<n->t.fv->Q [pb true] []->Gives S ZbG [.agg t.cs,.agg t.cs] [] Q
def ZNH (H:Has S) {n:Nat} (ih:EqS S n) {a:List Ty} (hm:Ty.szs a<n) (hl:a.length<=9223372036854775807) (h1:Ty.fvs a) (hQ:Q [pb true] []):Gives S ZdD [.one (.p (.sl 4 (Ty.encs a))),.one (.p (.sl 4 (Ty.encs a)))] [] Q:=by
 have e1:(Ty.encs a).length=a.length:=Ty.encs_length;refine .code H.ZqJ rfl ?_;simp(disch:=omega)[Zhc];refine Lp.rule (fun (j:Nat)=>[(0,.a (.one (.p (.sl 4 (Ty.encs a))))),(1,.a (.one (.p (.sl 4 (Ty.encs a))))),(5,.a (pi j)),(9999,.objs [])]) (fun j=>j<=a.length) (fun j=>a.length-j) (a₀:=0) Zs (Yd _) ?_;intro j k1;by_cases hj:j<a.length
 ·have r1:=Ty.encs_get (l:=a) (j:=j) Zo;simp(disch:=omega)[r1];refine ih _ _ (by have:=Ty.szs_get hj;omega) (Ty.fvs_get h1 hj) ?_;simp(disch:=omega);exact RdN.mk (j+1) Zs hj Zo
 ·simp(disch:=omega);exact hQ
def ZLh (H:Has S): ∀n,EqS S n
 | 0=>fun _ _ h=>absurd h (YI _)
 | n+1=>fun t Q hs ht hQ=>by
   have g7:=Ty.sz_a (t:=t);refine .code H.Ztw rfl ?_;simp(disch:=omega)[Ziv];refine ZNH H (ZLh H n) Zo (Ty.fv_len ht) (Ty.fv_a ht) ?_;simp(disch:=omega);exact hQ
def ZNc (H:Has S) {a:List Ty} (hl:a.length<=9223372036854775807) (h1:Ty.fvs a) (hQ:Q [pb true] []):Gives S ZdD [.one (.p (.sl 4 (Ty.encs a))),.one (.p (.sl 4 (Ty.encs a)))] [] Q:=
 ZNH H (ZLh H _) (Yz _) hl h1 hQ
def ZNy (H:Has S) {n:Nat} (ih: ∀(t:Ty) (Q:List A->List (List C)->Prop),t.sz<n->t.fw->Q [.agg t.cs] []->Gives S Zbv [.agg t.cs] [] Q) {a:List Ty} (hm:Ty.szs a<n) (hl:a.length<=100000) (h1:Ty.fws a) (hQ:Q [.one (.p (.sl 4 (Ty.encs a)))] []):Gives S ZdZ [.one (.p (.sl 4 (Ty.encs a)))] [] Q:=by
 have e1:(Ty.encs a).length=a.length:=Ty.encs_length;refine .code H.Zms rfl ?_;simp(disch:=omega)[Zfd];refine Lp.rule (fun (j:Nat)=>[(0,.a (.one (.p (.sl 4 (Ty.encs a))))),(3,.a (.one (.tip 4 ((Ty.encs a).take j)))),(4,.a (pi j)),(9999,.objs [])]) (fun j=>j<=a.length) (fun j=>a.length-j) (a₀:=0) Zs (Yd _) ?_;intro j k1;by_cases hj:j<a.length
 ·have r1:=Ty.encs_get (l:=a) (j:=j) Zo;simp(disch:=omega)[r1];refine ih _ _ (by have:=Ty.szs_get hj;omega) (Ty.fws_get h1 hj) ?_;simp(disch:=omega);exact RdN.mk (j+1) (by rw [Ym,Ya Zo,r1];rfl) hj Zo
 ·have e:(Ty.encs a).take j=Ty.encs a:=Yg Zo;simp(disch:=omega)[e];exact hQ
def ZMb (H:Has S): ∀(n:Nat) (t:Ty) (Q:List A->List (List C)->Prop),t.sz<n->t.fw->Q [.agg t.cs] []->Gives S Zbv [.agg t.cs] [] Q
 | 0,_,_,h,_,_=>absurd h (YI _)
 | n+1,t,Q,hs,ht,hQ=>by
   have g7:=Ty.sz_a (t:=t);refine .code H.ZsF rfl ?_;simp(disch:=omega)[ZhV];refine ZNy H (ZMb H n) Zo (Ty.fw_len ht) (Ty.fw_a ht) ?_;simp(disch:=omega);exact hQ
def ZOh (H:Has S) {a:List Ty} (hl:a.length<=100000) (h1:Ty.fws a) (hQ:Q [.one (.p (.sl 4 (Ty.encs a)))] []):Gives S ZdZ [.one (.p (.sl 4 (Ty.encs a)))] [] Q:=
 ZNy H (ZMb H _) (Yz _) hl h1 hQ
end Go.Am.Fe
end
