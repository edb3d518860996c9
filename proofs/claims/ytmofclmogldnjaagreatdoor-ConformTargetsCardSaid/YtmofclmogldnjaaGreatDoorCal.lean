/- Part. -/
import Derived.Test.YtmofclmogldnjaaGreatDoorCak
set_option maxRecDepth 999999
set_option maxHeartbeats 0
set_option linter.all false
def jD:=@List.cons_append
section
namespace Go.Am.Fe
variable {S:SF} {Q:QF}
attribute [local simp] ZbO if_pos if_neg decide_eq_true decide_eq_false Yi Yj ZgF
structure HasP (S:SF):Prop where
 itoa: ∀(n:Int) (Q:QF),In64 n->(∀s:LN,Byt s->s.length<=20->(n<0->1<=s.length)->Q [ps s] [])->Gives S Zfh [pi n] [] Q
 escaped: ∀(s:LN) (Q:QF),Str s->(∀s':LN,Byt s'->s'.length<=2*s.length->Q [ps s'] [])->Gives S Ze1 [ps s] [] Q
def OkPr (S:SF) (N n:Nat):Prop:= ∀(mm:Nat) (op n' k m a:Int) (s s2:LN) (args ts ls rows:LP) (Q:QF),mm<n->wt rows+40000*mm<=2000000000->ZaL rows->
 IsNd mm (rN op s n' k s2 m args ts ls a)->ZfX (wt rows+40000*mm-10000) Q->Gives S N [.one (.tip 1 rows),aN op s n' k s2 m args ts ls a] [] Q
def Zan {a b:LN}:Byt (a++b)=(Byt a/\Byt b):=by
 refine propext ⟨fun h=>⟨fun c hc=>h c (List.mem_append_left _ hc),fun c hc=>h c (List.mem_append_right _ hc)⟩,fun h c hc=>?_⟩;rcases List.mem_append.mp hc with hc|hc
 ·exact h.1 c hc
 ·exact h.2 c hc
def ZvT {a:LN} {n:Nat} (h:Byt a):Byt (a.drop n):=fun c hc=>h c (List.mem_of_mem_drop hc)
def Zai {c:Nat} {a:LN}:Byt (c::a)=(c<256/\Byt a):=by simp [Byt]
def Zao:Byt []=True:=by simp [Byt]
def wS {p:Prop} (h:p:=by first|assumption|(simp only [Zab,Zaa,Zac,and_true];repeat' (first|assumption|apply And.intro|(simp only [Zan,Zai,Zao,and_true])|omega|(simp [Byt])))):p:=h
def ZnK (H:Has S) {n:Nat} (hS:OkPr S ZaC n) {mm:Nat} {ls rows:LP} (hm:mm<n) (hw:wt rows+40000*mm+10<=2000000000) (hr:ZaL rows)
   (hn:IsNds mm ls) (hQ:ZfX (wt rows+40000*mm+10) Q):Gives S ZdU [.one (.tip 1 rows),.one (.l 10 ls)] [] Q:=by
 obtain ⟨f,f0,f1,f2⟩:=hn.parts;have hlen:=Zav (a:=rows);have g8:=hn.len;have g9:=f1 _ (Yc _);obtain ⟨w,hw0⟩: ∃w,w=wt rows:=⟨_,rfl⟩
 refine .code H.Zws rfl ?_;simp(disch:=omega)[ZlJ]
 repeat' (first
   | exact hQ _ wR wO
   | exact RdQ Zo wR wO
   | (refine hS _ _ _ _ _ _ _ _ _ _ _ _ _ Zo wO wS p2 (fun rows r6 r7=>?_);have r9:=Zav (a:=rows);(try simp only [wts] at r7);simp(disch:=omega))
   | (refine Zaf (fun hc=>?_) (fun hc=>?_)<;>simp(disch:=omega)[hc]<;>try simp only [Zx3] at hc)
   | (refine Lp.strq (key:=5) (ls.length) (w+2) f wS wO (fun rows j r1 r2 r3=>?_)
      have r4:=Zav (a:=rows);have r5:=f1 j r3;by_cases hj:j<ls.length;rotate_left;obtain rfl:j=ls.length:=by omega
      simp(disch:=omega);rotate_left;obtain ⟨mj,p1,p2⟩:=f2 j hj;obtain ⟨op2,n2,k2',mm2,a2,s4,s5,args2,ts2,ls2,pe⟩:=p2.form;rw [pe] at p2;have p3:=f1 (j+1) hj;obtain ⟨m4,m5,m6,q1,q2,q3,q4,q5,_⟩:=p2.inv;have q6:=q2.1;have q7:=q2.2;have q8:1<=m4:=by obtain ⟨m0,g1,_⟩:=q3.inv;omega
      by_cases hj0:j=0;subst hj0;simp(disch:=omega)[pe];rotate_left;simp(disch:=omega)[pe])
   | (exfalso;omega))
def ZmB (H:Has S) (HP:HasP S) {n:Nat} (hS:OkPr S ZaC n) {around:Bool} {mm:Nat} {op n' k m a:Int} {s s2:LN} {args ts ls rows:LP} (hm:mm<n) (hw:wt rows+40000*mm+10<=2000000000) (hr:ZaL rows)
  (hn:IsNd mm (rN op s n' k s2 m args ts ls a)) (hQ:ZfX (wt rows+40000*mm-9000) Q):Gives S ZdE [.one (.tip 1 rows),aN op s n' k s2 m args ts ls a,pb around] [] Q:=by
 obtain ⟨m1,m2,m3,g1,⟨s1,s3⟩,g3,g4,g5,g6,g7,g7'⟩:=hn.inv;obtain ⟨f,f0,f1,f2⟩:=g5.parts;have hlen:=Zav (a:=rows);have g8:=g5.len;have g9:=f1 _ (Yc _);have g10:1<=m1:=by obtain ⟨m0,g1,_⟩:=g3.inv;omega
 obtain ⟨w,hw0⟩: ∃w,w=wt rows:=⟨_,rfl⟩
 have hn2:=hn;refine .code H.Zsy rfl ?_;cases around
 ·simp(disch:=omega)[Zf1]
  repeat' (first
      | exact hQ _ wR wO
      | (refine hS _ _ _ _ _ _ _ _ _ _ _ _ _ Zo wO wS hn2 (fun rows r6 r7=>?_);have r9:=Zav (a:=rows);(try simp only [wts] at r7);simp(disch:=omega))
      | (exfalso;omega))
 ·simp(disch:=omega)[Zf1]
  repeat' (first
      | exact hQ _ wR wO
      | (refine hS _ _ _ _ _ _ _ _ _ _ _ _ _ Zo wO wS hn2 (fun rows r6 r7=>?_);have r9:=Zav (a:=rows);(try simp only [wts] at r7);simp(disch:=omega))
      | (exfalso;omega))
def ZiK {a b:List Int} (h: ∀x,x∈a->x∉b) {l:List Nd}:osz a l+osz b l<=Nd.szs l:=by
 induction l with
 | nil=>simp [osz]
 | cons x l ih=>
   simp only [osz,Nd.szs];by_cases h1:x.op∈a
   · rw [if_pos h1,if_neg (h _ h1)];omega
   · rw [if_neg h1];by_cases h2:x.op∈b
     · rw [if_pos h2];omega
     · rw [if_neg h2];omega
def Za2 {a b:List Int} (h: ∀x,x∈a->x∉b) {l:List Nd}:osz a l+osz b l=osz (a++b) l:=by
 induction l with
 | nil=>simp [osz]
 | cons x l ih=>
   simp only [osz,Ys];by_cases h1:x.op∈a
   · rw [if_pos h1,if_neg (h _ h1),if_pos (.inl h1)];omega
   · rw [if_neg h1];by_cases h2:x.op∈b
     · rw [if_pos h2,if_pos (.inr h2)];omega
     · rw [if_neg h2,if_neg (by simp [h1,h2])];omega
def Zot {a:List Int} {l:List Nd}:osz a l<=Nd.szs l:=by
 have:=ZiK (a:=a) (b:=[]) Zs (l:=l);omega
def stS2 (d5:D) (box:LC) (b:LP×Nat):Env:=[(0,.a (.one (.tip 1 b.1))),fR 3,(5,d5),(6,.a (pi b.2)),o9,(10003,.a (.agg box))]
def Lp.strs2 {live:LN} {b:SCode} {kk:List Fr} {Q':X->Env->Prop} {d5:D} {box:LC} {rows:LP} (n W:Nat) (f:Nat->Nat) (h0:ZaL rows) (h1:wt rows<=W+40000*f 0)
  (h: ∀(rows:LP) (j:Nat),ZaL rows->wt rows<=W+40000*f j->j<=n->Go S b [(0,.a (.one (.tip 1 rows))),fR 3,(5,d5),(6,.a (pi j)),o9,(10003,.a (.agg box))] (.inv (Rd live (stS2 d5 box) (prS n W f) (fun b=>n-b.2) (rows,j))::kk) Q'):
  Lp S live b [(0,.a (.one (.tip 1 rows))),fR 3,(5,d5),(6,.a (.one (.i 0))),o9,(10003,.a (.agg box))] kk Q':=
 Lp.rule (stS2 d5 box) (prS n W f) (fun b=>n-b.2) (a₀:=(rows,0)) rfl ⟨h0,h1,Yd _⟩ fun a ha=>h a.1 a.2 ha.1 ha.2.1 ha.2.2
def RdS2 {d5:D} {n W:Nat} {f:Nat->Nat} {box:LC} {rows rows':LP} {j:Nat} (h1:j<n) (h2:ZaL rows') (h3:wt rows'<=W+40000*f (j+1)):
  RdN (stS2 d5 box) (prS n W f) (fun b=>n-b.2) (rows,j) [(0,.a (.one (.tip 1 rows'))),fR 3,(5,d5),(6,.a (.one (.p (.i ((j:Int)+1))))),o9,(10003,.a (.agg box))]:=
 ⟨(rows',j+1),rfl,⟨h2,h3,h1⟩,dO⟩
def ZpB (H:Has S) (HP:HasP S) {n:Nat} (hS:OkPr S ZaC n) {mm:Nat} {op n' k m a:Int} {s s2:LN} {args ts ls rows:LP} (hne:ls≠[]) (ho:op≠63) (hm:mm<n+1) (hw:wt rows+40000*mm<=2000000000) (hr:ZaL rows)
   (hn:IsNd mm (rN op s n' k s2 m args ts ls a)) (hQ:ZfX (wt rows+40000*mm-10000) Q):Gives S ZcZ [.one (.tip 1 rows),aN op s n' k s2 m args ts ls a] [] Q:=by
 obtain ⟨m1,m2,m3,g1,⟨s1,s3⟩,g3,g4,g5,g6,g7,g7'⟩:=hn.inv;have hlen:=Zav (a:=rows);have g8:=g5.len;have g10:1<=m1:=by obtain ⟨m0,g1,_⟩:=g3.inv;omega
 obtain ⟨w,hw0⟩: ∃w,w=wt rows:=⟨_,rfl⟩
 cases ls with
 | nil=>exact absurd rfl hne
 | cons r ls=>
   obtain ⟨m4,m5,h1,h2,h3⟩:=g5.uncons;obtain ⟨opA,nA,kA,mA,aA,sA,sB,argsA,tsA,lsA,rfl⟩:=h2.form;have h4:=h3.len;cases ls with
   | nil=>
     refine .code H.ZjI rfl ?_;simp(disch:=omega)[Zd0]
     repeat' (first
       | exact hQ _ wR wO
       | (refine Zqm H (fun b=>?_);simp(disch:=omega))
       | (refine ZmB H HP hS Zo wO wS h2 (fun rows r6 r7=>?_);have r9:=Zav (a:=rows);(try simp only [wts] at r7);simp(disch:=omega))
       | (refine hS _ _ _ _ _ _ _ _ _ _ _ _ _ Zo wO wS h2 (fun rows r6 r7=>?_);have r9:=Zav (a:=rows);(try simp only [wts] at r7);simp(disch:=omega))
       | (refine ZnK H hS (mm:=0) Zo wO wS IsNds.nil (fun rows r6 r7=>?_);have r9:=Zav (a:=rows);(try simp only [wts] at r7);simp(disch:=omega))
       | (refine Zaf (fun hc=>?_) (fun hc=>?_)<;>simp(disch:=omega)[hc]<;>try simp only [Zx3] at hc)
       | (exfalso;omega)
       | (exfalso;omega))
   | cons r2 ls=>
     obtain ⟨m6,m7,h5,h6,h7⟩:=h3.uncons;obtain ⟨opB,nB,kB,mB,aB,sC,sD,argsB,tsB,lsB,rfl⟩:=h6.form;refine .code H.ZjI rfl ?_;simp(disch:=omega)[Zd0]
     repeat' (first
       | exact hQ _ wR wO
       | (refine Zqm H (fun b=>?_);simp(disch:=omega))
       | (refine ZmB H HP hS Zo wO wS h2 (fun rows r6 r7=>?_);have r9:=Zav (a:=rows);(try simp only [wts] at r7);simp(disch:=omega))
       | (refine hS _ _ _ _ _ _ _ _ _ _ _ _ _ Zo wO wS h2 (fun rows r6 r7=>?_);have r9:=Zav (a:=rows);(try simp only [wts] at r7);simp(disch:=omega))
       | (refine hS _ _ _ _ _ _ _ _ _ _ _ _ _ Zo wO wS h6 (fun rows r6 r7=>?_);have r9:=Zav (a:=rows);(try simp only [wts] at r7);simp(disch:=omega))
       | (refine ZnK H hS (mm:=m5) Zo wO wS h3 (fun rows r6 r7=>?_);have r9:=Zav (a:=rows);(try simp only [wts] at r7);simp(disch:=omega))
       | (refine Zaf (fun hc=>?_) (fun hc=>?_)<;>simp(disch:=omega)[hc]<;>try simp only [Zx3] at hc)
       | (exfalso;omega)
       | (exfalso;omega))
def ZpH (H:Has S) (HP:HasP S) {n:Nat} (hT:OkPr S Za1 n) {mm:Nat} {n' k m a:Int} {s s2:LN} {args ts ls rows:LP} (hm:mm<n+1) (hw:wt rows+40000*mm<=2000000000) (hr:ZaL rows)
  (hn:IsNd mm (rN 63 s n' k s2 m args ts ls a)) (hQ:ZfX (wt rows+40000*mm-10000) Q):Gives S ZcZ [.one (.tip 1 rows),aN 63 s n' k s2 m args ts ls a] [] Q:=by
 obtain ⟨m1,m2,m3,g1,⟨s1,s3⟩,g3,g4,g5,g6,g7,g7'⟩:=hn.inv;have hlen:=Zav (a:=rows);have g8:=g5.len;have g10:1<=m1:=by obtain ⟨m0,g1,_⟩:=g3.inv;omega
 obtain ⟨w,hw0⟩: ∃w,w=wt rows:=⟨_,rfl⟩
 obtain ⟨l,rfl,hg,hsz⟩:=g5;have k1:=ZiK (a:=[10]) (b:=[20]) Zd (l:=l);obtain ⟨f,f0,f1,f2⟩:=Zql (ops:=[20]) hg;have k2:=f1 _ (Yc _);refine .code H.ZjI rfl ?_;simp(disch:=omega)[Zd0];refine ZoY H hg Zo wO wS (fun rows r6 r7=>?_);have r9:=Zav (a:=rows);(try simp only [wts] at r7);simp(disch:=omega);refine ZnY H wO wS g3 (fun rows r6 r7=>?_);have r9:=Zav (a:=rows);(try simp only [wts] at r7);simp(disch:=omega);refine Lp.strs (key:=5) (Nd.encs l).length (w+40000*osz [10] l+40000*m1+100) f wS wO (fun rows j r1 r2 r3=>?_);have r4:=Zav (a:=rows);have r5:=f1 j r3;by_cases hj:j<(Nd.encs l).length
 ·obtain ⟨mj,op2,n2,k2',mm2,a2,s4,s5,args2,ts2,ls2,pe,p2,p3,p4⟩:=f2 j hj;have p5:=f1 (j+1) hj;simp(disch:=omega)[pe];by_cases ho:op2=20
  ·subst ho;have p6:=p4 Zd;obtain ⟨m4,m5,m6,q1,q2,q3,q4,q5,_⟩:=p2.inv;obtain ⟨f',f0',f1',f2'⟩:=q5.parts;have q6:=q5.len;simp(disch:=omega)[pe];refine Lp.strs2 ls2.length (w+40000*osz [10] l+40000*m1+100+40000*f j) f' wS wO (fun rows jj r1 r2 r3=>?_);have r4:=Zav (a:=rows);have r5:=f1' jj r3;by_cases hjj:jj<ls2.length
   ·obtain ⟨mj2,t1,t2⟩:=f2' jj hjj;obtain ⟨op3,n3,k3',mm3,a3,s6,s7,args3,ts3,ls3,pe2⟩:=t2.form;rw [pe2] at t2;have t3:=f1' (jj+1) hjj;simp(disch:=omega)[pe,pe2];refine hT _ _ _ _ _ _ _ _ _ _ _ _ _ Zo wO wS t2 (fun rows r6 r7=>?_);have r9:=Zav (a:=rows);(try simp only [wts] at r7);simp(disch:=omega);exact RdS2 Zo wS wO
   ·obtain rfl:jj=ls2.length:=by omega
    simp(disch:=omega)[pe];exact RdS Zo wS wO
  ·simp(disch:=omega)[pe,ho];exact RdS Zo wS wO
 ·obtain rfl:j=(Nd.encs l).length:=by omega
  simp(disch:=omega);exact hQ _ wS wO
def Zp7 (H:Has S) (HP:HasP S) {n:Nat} (hS:OkPr S ZaC n) (hT:OkPr S Za1 n) {mm:Nat} {op n' k m a:Int} {s s2:LN} {args ts ls rows:LP} (hne:ls≠[]) (hm:mm<n+1) (hw:wt rows+40000*mm<=2000000000) (hr:ZaL rows)
  (hn:IsNd mm (rN op s n' k s2 m args ts ls a)) (hQ:ZfX (wt rows+40000*mm-10000) Q):Gives S ZcZ [.one (.tip 1 rows),aN op s n' k s2 m args ts ls a] [] Q:=by
 by_cases ho:op=63
 ·subst ho;exact ZpH H HP hT hm hw hr hn hQ
 ·exact ZpB H HP hS hne ho hm hw hr hn hQ
def Zoy (H:Has S) (HP:HasP S) {n:Nat} (hS:OkPr S ZaC n) (hT:OkPr S Za1 n) {mm:Nat} {op n' k m a:Int} {s s2:LN} {args ts ls rows:LP} (hm:mm<n+1) (hw:wt rows+40000*mm<=2000000000) (hr:ZaL rows)
   (hn:IsNd mm (rN op s n' k s2 m args ts ls a)) (hQ:ZfX (wt rows+40000*mm-10000) Q):Gives S ZaC [.one (.tip 1 rows),aN op s n' k s2 m args ts ls a] [] Q:=by
 obtain ⟨m1,m2,m3,g1,⟨s1,s3⟩,g3,g4,g5,g6,g7,g7'⟩:=hn.inv;obtain ⟨f,f0,f1,f2⟩:=g5.parts;have hlen:=Zav (a:=rows);have g8:=g5.len;have g9:=f1 _ (Yc _);have g10:1<=m1:=by obtain ⟨m0,g1,_⟩:=g3.inv;omega
 obtain ⟨w,hw0⟩: ∃w,w=wt rows:=⟨_,rfl⟩
 have hn2:=hn;refine .code H.ZtK rfl ?_;simp(disch:=omega)[Zjj]
 repeat' (first
   | exact hQ _ wS wO
   | exact RdS Zo wS wO
   | (refine HP.itoa _ _ (g7' Zo) (fun s' b1 b2 b3=>?_);simp(disch:=omega))
   | (refine ZqY H (fun s' b1 b2=>?_);simp(disch:=omega))
   | (refine HP.escaped _ _ (by first|exact ⟨s1,s3⟩|exact q2) (fun s' b1 b2=>?_);simp(disch:=omega))
   | (refine Zbs H wO wS g3 (fun rows r6 r7=>?_);have r9:=Zav (a:=rows);(try simp only [wts] at r7);simp(disch:=omega))
   | (refine ZnK H hS (mm:=m3) Zo wO wS g5 (fun rows r6 r7=>?_);have r9:=Zav (a:=rows);(try simp only [wts] at r7);simp(disch:=omega))
   | (refine hS _ _ _ _ _ _ _ _ _ _ _ _ _ Zo wO wS p2 (fun rows r6 r7=>?_);have r9:=Zav (a:=rows);(try simp only [wts] at r7);simp(disch:=omega)[pe])
   | (refine Zp7 H HP hS hT (by first|assumption|(intro e;subst e;simp at hc)) hm wO wS hn2 (fun rows r6 r7=>?_);have r9:=Zav (a:=rows);(try simp only [wts] at r7);simp(disch:=omega))
   | (refine Lp.strs (key:=5) (ls.length) (w+40000*m1+20000) f wS wO (fun rows j r1 r2 r3=>?_)
      have r4:=Zav (a:=rows);have r5:=f1 j r3;by_cases hj:j<ls.length;rotate_left;obtain rfl:j=ls.length:=by omega
      simp(disch:=omega);rotate_left;obtain ⟨mj,p1,p2⟩:=f2 j hj;obtain ⟨op2,n2,k2',mm2,a2,s4,s5,args2,ts2,ls2,pe⟩:=p2.form;rw [pe] at p2;have p3:=f1 (j+1) hj;obtain ⟨m4,m5,m6,q1,q2,q3,q4,q5,_⟩:=p2.inv;have q6:=q2.1;have q7:=q2.2;have q8:1<=m4:=by obtain ⟨m0,g1,_⟩:=q3.inv;omega
      by_cases hj0:j=0;subst hj0;simp(disch:=omega)[pe];rotate_left;simp(disch:=omega)[pe])
   | (refine Lp.strs (key:=8) (ls.length) (w+40000*m1+20000) f wS wO (fun rows j r1 r2 r3=>?_)
      have r4:=Zav (a:=rows);have r5:=f1 j r3;by_cases hj:j<ls.length;rotate_left;obtain rfl:j=ls.length:=by omega
      simp(disch:=omega);rotate_left;obtain ⟨mj,p1,p2⟩:=f2 j hj;obtain ⟨op2,n2,k2',mm2,a2,s4,s5,args2,ts2,ls2,pe⟩:=p2.form;rw [pe] at p2;have p3:=f1 (j+1) hj;obtain ⟨m4,m5,m6,q1,q2,q3,q4,q5,_⟩:=p2.inv;have q6:=q2.1;have q7:=q2.2;have q8:1<=m4:=by obtain ⟨m0,g1,_⟩:=q3.inv;omega
      by_cases hj0:j=0;subst hj0;simp(disch:=omega)[pe];rotate_left;simp(disch:=omega)[pe])
   | (refine Zaf (fun hc=>?_) (fun hc=>?_)<;>simp(disch:=omega)[hc,pe]<;>try simp only [Zx3] at hc)
   | (refine Zaf (fun hc=>?_) (fun hc=>?_)<;>simp(disch:=omega)[hc]<;>try simp only [Zx3] at hc)
   | (exfalso;omega))
def Znf (H:Has S) (HP:HasP S) {n:Nat} (hM:OkPr S ZcX n) {mm:Nat} {op n' k m a:Int} {s s2:LN} {args ts ls rows:LP} (hm:mm<n+1) (hw:wt rows+40000*mm<=2000000000) (hr:ZaL rows)
   (hn:IsNd mm (rN op s n' k s2 m args ts ls a)) (hQ:ZfX (wt rows+40000*mm-10000) Q):Gives S ZcX [.one (.tip 1 rows),aN op s n' k s2 m args ts ls a] [] Q:=by
 obtain ⟨m1,m2,m3,g1,⟨s1,s3⟩,g3,g4,g5,g6,g7,g7'⟩:=hn.inv;obtain ⟨f,f0,f1,f2⟩:=g5.parts;have hlen:=Zav (a:=rows);have g8:=g5.len;have g9:=f1 _ (Yc _);have g10:1<=m1:=by obtain ⟨m0,g1,_⟩:=g3.inv;omega
 obtain ⟨w,hw0⟩: ∃w,w=wt rows:=⟨_,rfl⟩
 refine .code H.ZsW rfl ?_;simp(disch:=omega)[ZhJ]
 repeat' (first
   | exact hQ _ wS wO
   | exact RdS Zo wS wO
   | (refine HP.itoa _ _ (g7' Zo) (fun s' b1 b2 b3=>?_);have b5:Byt (s'.drop 1):=ZvT b1;have b6:Byt s'.tail:=by rw [<-List.drop_one];exact b5
      by_cases hneg:n'<0;have b4:=b3 hneg
      all_goals simp(disch:=omega)[hneg])
   | (refine ZqY H (fun s' b1 b2=>?_);simp(disch:=omega))
   | (refine HP.escaped _ _ (by first|exact ⟨s1,s3⟩|exact q2) (fun s' b1 b2=>?_);simp(disch:=omega))
   | (refine hM _ _ _ _ _ _ _ _ _ _ _ _ _ Zo wO wS p2 (fun rows r6 r7=>?_);have r9:=Zav (a:=rows);(try simp only [wts] at r7);simp(disch:=omega)[pe])
   | (refine Lp.strs (key:=6) (ls.length) (w+40000*m1+20000) f wS wO (fun rows j r1 r2 r3=>?_)
      have r4:=Zav (a:=rows);have r5:=f1 j r3;by_cases hj:j<ls.length;rotate_left;obtain rfl:j=ls.length:=by omega
      simp(disch:=omega);rotate_left;obtain ⟨mj,p1,p2⟩:=f2 j hj;obtain ⟨op2,n2,k2',mm2,a2,s4,s5,args2,ts2,ls2,pe⟩:=p2.form;rw [pe] at p2;have p3:=f1 (j+1) hj;obtain ⟨m4,m5,m6,q1,q2,q3,q4,q5,_⟩:=p2.inv;have q6:=q2.1;have q7:=q2.2;have q8:1<=m4:=by obtain ⟨m0,g1,_⟩:=q3.inv;omega
      by_cases hj0:j=0;subst hj0;simp(disch:=omega)[pe];rotate_left;simp(disch:=omega)[pe])
   | (refine Zaf (fun hc=>?_) (fun hc=>?_)<;>simp(disch:=omega)[hc,pe]<;>try simp only [Zx3] at hc)
   | (refine Zaf (fun hc=>?_) (fun hc=>?_)<;>simp(disch:=omega)[hc]<;>try simp only [Zx3] at hc)
   | (exfalso;omega))
def Zmu (H:Has S) (HP:HasP S): ∀n,OkPr S ZcX n
 | 0=>fun _ _ _ _ _ _ _ _ _ _ _ _ _ h=>absurd h (YI _)
 | n+1=>fun _ _ _ _ _ _ _ _ _ _ _ _ _ hm hw hr hn hQ=>Znf H HP (Zmu H HP n) hm hw hr hn hQ
def Zpm (H:Has S) (HP:HasP S) {n:Nat} (hS:OkPr S ZaC n) (hT:OkPr S Za1 n) {mm:Nat} {op n' k m a:Int} {s s2:LN} {args ts ls rows:LP} (hm:mm<n+1) (hw:wt rows+40000*mm<=2000000000) (hr:ZaL rows)
   (hn:IsNd mm (rN op s n' k s2 m args ts ls a)) (hQ:ZfX (wt rows+40000*mm-10000) Q):Gives S Zfa [.one (.tip 1 rows),aN op s n' k s2 m args ts ls a] [] Q:=by
 obtain ⟨m1,m2,m3,g1,⟨s1,s3⟩,g3,g4,g5,g6,g7,g7'⟩:=hn.inv;obtain ⟨f,f0,f1,f2⟩:=g5.parts;have hlen:=Zav (a:=rows);have g8:=g5.len;have g9:=f1 _ (Yc _);have g10:1<=m1:=by obtain ⟨m0,g1,_⟩:=g3.inv;omega
 obtain ⟨w,hw0⟩: ∃w,w=wt rows:=⟨_,rfl⟩
 have hM:=Zmu H HP n;refine .code H.ZrM rfl ?_;simp(disch:=omega)[ZgB]
 repeat' (first
   | exact hQ _ wS wO
   | exact RdS Zo wS wO
   | (refine hS _ _ _ _ _ _ _ _ _ _ _ _ _ Zo wO wS p2 (fun rows r6 r7=>?_);have r9:=Zav (a:=rows);(try simp only [wts] at r7);simp(disch:=omega)[pe])
   | (refine hT _ _ _ _ _ _ _ _ _ _ _ _ _ Zo wO wS p2 (fun rows r6 r7=>?_);have r9:=Zav (a:=rows);(try simp only [wts] at r7);simp(disch:=omega)[pe])
   | (refine hM _ _ _ _ _ _ _ _ _ _ _ _ _ Zo wO wS u2 (fun rows r6 r7=>?_);have r9:=Zav (a:=rows);(try simp only [wts] at r7);simp(disch:=omega)[pe])
   | (refine hT _ _ _ _ _ _ _ _ _ _ _ _ _ Zo wO wS v2 (fun rows r6 r7=>?_);have r9:=Zav (a:=rows);(try simp only [wts] at r7);simp(disch:=omega)[pe])
   | (refine Lp.strs (key:=5) (ls.length) (w+40000*m1+20000) f wS wO (fun rows j r1 r2 r3=>?_)
      have r4:=Zav (a:=rows);have r5:=f1 j r3;by_cases hj:j<ls.length;rotate_left;obtain rfl:j=ls.length:=by omega
      simp(disch:=omega);rotate_left;obtain ⟨mj,p1,p2⟩:=f2 j hj;obtain ⟨op2,n2,k2',mm2,a2,s4,s5,args2,ts2,ls2,pe⟩:=p2.form;rw [pe] at p2;have p3:=f1 (j+1) hj;obtain ⟨m4,m5,m6,q1,q2,q3,q4,q5,_⟩:=p2.inv;have q6:=q2.1;have q7:=q2.2;have q8:1<=m4:=by obtain ⟨m0,g1,_⟩:=q3.inv;omega
      by_cases hj0:j=0;subst hj0;simp(disch:=omega)[pe];rotate_left;by_cases hj1:j=1;subst hj1;simp(disch:=omega)[pe];rotate_left;by_cases hj2:j=2;subst hj2;simp(disch:=omega)[pe];rotate_left;simp(disch:=omega)[pe])
   | (refine Lp.strs (key:=6) (ls.length) (w+40000*m1+20000) f wS wO (fun rows j r1 r2 r3=>?_)
      have r4:=Zav (a:=rows);have r5:=f1 j r3;by_cases hj:j<ls.length;rotate_left;obtain rfl:j=ls.length:=by omega
      simp(disch:=omega);rotate_left;obtain ⟨mj,p1,p2⟩:=f2 j hj;obtain ⟨op2,n2,k2',mm2,a2,s4,s5,args2,ts2,ls2,pe⟩:=p2.form;rw [pe] at p2;have p3:=f1 (j+1) hj;obtain ⟨m4,m5,m6,q1,q2,q3,q4,q5,_⟩:=p2.inv;have q6:=q2.1;have q7:=q2.2;have q8:1<=m4:=by obtain ⟨m0,g1,_⟩:=q3.inv;omega
      rcases ls2 with _|⟨x,_|⟨y,_|⟨z,zs⟩⟩⟩
      rotate_left 2;obtain ⟨ma,mb,u1,u2,u3⟩:=q5.uncons;obtain ⟨mc,md,v1,v2,v3⟩:=u3.uncons;obtain ⟨opA,nA,kA,mA,aA,sA,sB,argsA,tsA,lsA,rfl⟩:=u2.form;obtain ⟨opB,nB,kB,mB,aB,sC,sD,argsB,tsB,lsB,rfl⟩:=v2.form
      rotate_right 2
      all_goals (first|(by_cases hj0:j=0<;>(first|subst hj0|skip)<;>simp(disch:=omega)[pe])|skip))
   | (refine Lp.strs (key:=7) (ls.length) (w+40000*m1+20000) f wS wO (fun rows j r1 r2 r3=>?_)
      have r4:=Zav (a:=rows);have r5:=f1 j r3;by_cases hj:j<ls.length;rotate_left;obtain rfl:j=ls.length:=by omega
      simp(disch:=omega);rotate_left;obtain ⟨mj,p1,p2⟩:=f2 j hj;obtain ⟨op2,n2,k2',mm2,a2,s4,s5,args2,ts2,ls2,pe⟩:=p2.form;rw [pe] at p2;have p3:=f1 (j+1) hj;obtain ⟨m4,m5,m6,q1,q2,q3,q4,q5,_⟩:=p2.inv;have q6:=q2.1;have q7:=q2.2;have q8:1<=m4:=by obtain ⟨m0,g1,_⟩:=q3.inv;omega
      by_cases hj0:j=0;subst hj0;simp(disch:=omega)[pe];rotate_left;by_cases hj1:j=1;subst hj1;simp(disch:=omega)[pe];rotate_left;simp(disch:=omega)[pe])
   | (refine Lp.strs (key:=8) (ls.length) (w+40000*m1+20000) f wS wO (fun rows j r1 r2 r3=>?_)
      have r4:=Zav (a:=rows);have r5:=f1 j r3;by_cases hj:j<ls.length;rotate_left;obtain rfl:j=ls.length:=by omega
      simp(disch:=omega);rotate_left;obtain ⟨mj,p1,p2⟩:=f2 j hj;obtain ⟨op2,n2,k2',mm2,a2,s4,s5,args2,ts2,ls2,pe⟩:=p2.form;rw [pe] at p2;have p3:=f1 (j+1) hj;obtain ⟨m4,m5,m6,q1,q2,q3,q4,q5,_⟩:=p2.inv;have q6:=q2.1;have q7:=q2.2;have q8:1<=m4:=by obtain ⟨m0,g1,_⟩:=q3.inv;omega
      simp(disch:=omega)[pe])
   | (refine Zaf (fun hc=>?_) (fun hc=>?_)<;>simp(disch:=omega)[hc,pe]<;>try simp only [Zx3] at hc)
   | (refine Zam (fun hc=>?_) (fun hc=>?_)<;>simp(disch:=omega)[hc]<;>try simp only [Zx3] at hc)
   | (refine Zaf (fun hc=>?_) (fun hc=>?_)<;>simp(disch:=omega)[hc]<;>try simp only [Zx3] at hc)
   | (exfalso;omega))
def Zou (H:Has S) (HP:HasP S) {n:Nat} (hS:OkPr S ZaC n) (hT:OkPr S Za1 n) {mm:Nat} {op n' k m a:Int} {s s2:LN} {args ts ls rows:LP} (hm:mm<n+1) (hw:wt rows+40000*mm<=2000000000) (hr:ZaL rows)
   (hn:IsNd mm (rN op s n' k s2 m args ts ls a)) (hQ:ZfX (wt rows+40000*mm-10000) Q):Gives S Za1 [.one (.tip 1 rows),aN op s n' k s2 m args ts ls a] [] Q:=by
 obtain ⟨m1,m2,m3,g1,⟨s1,s3⟩,g3,g4,g5,g6,g7,g7'⟩:=hn.inv;obtain ⟨f,f0,f1,f2⟩:=g5.parts;have hlen:=Zav (a:=rows);have g8:=g5.len;have g9:=f1 _ (Yc _);have g10:1<=m1:=by obtain ⟨m0,g1,_⟩:=g3.inv;omega
 obtain ⟨w,hw0⟩: ∃w,w=wt rows:=⟨_,rfl⟩
 have hn2:=hn;refine .code H.ZuW rfl ?_;simp(disch:=omega)[ZjF]
 repeat' (first
   | exact hQ _ wS wO
   | exact RdS Zo wS wO
   | (refine Zbs H wO wS g3 (fun rows r6 r7=>?_);have r9:=Zav (a:=rows);(try simp only [wts] at r7);simp(disch:=omega))
   | (refine hS _ _ _ _ _ _ _ _ _ _ _ _ _ Zo wO wS p2 (fun rows r6 r7=>?_);have r9:=Zav (a:=rows);(try simp only [wts] at r7);simp(disch:=omega)[pe])
   | (refine hT _ _ _ _ _ _ _ _ _ _ _ _ _ Zo wO wS p2 (fun rows r6 r7=>?_);have r9:=Zav (a:=rows);(try simp only [wts] at r7);simp(disch:=omega)[pe])
   | (refine Zpm H HP hS hT hm wO wS hn2 (fun rows r6 r7=>?_);have r9:=Zav (a:=rows);(try simp only [wts] at r7);simp(disch:=omega))
   | (refine Lp.strs (key:=5) (ls.length) (w+40000*m1+20000) f wS wO (fun rows j r1 r2 r3=>?_)
      have r4:=Zav (a:=rows);have r5:=f1 j r3;by_cases hj:j<ls.length;rotate_left;obtain rfl:j=ls.length:=by omega
      simp(disch:=omega);rotate_left;obtain ⟨mj,p1,p2⟩:=f2 j hj;obtain ⟨op2,n2,k2',mm2,a2,s4,s5,args2,ts2,ls2,pe⟩:=p2.form;rw [pe] at p2;have p3:=f1 (j+1) hj;obtain ⟨m4,m5,m6,q1,q2,q3,q4,q5,_⟩:=p2.inv;have q6:=q2.1;have q7:=q2.2;have q8:1<=m4:=by obtain ⟨m0,g1,_⟩:=q3.inv;omega
      simp(disch:=omega)[pe])
   | (refine Lp.strs (key:=6) (ls.length) (w+40000*m1+20000) f wS wO (fun rows j r1 r2 r3=>?_)
      have r4:=Zav (a:=rows);have r5:=f1 j r3;by_cases hj:j<ls.length;rotate_left;obtain rfl:j=ls.length:=by omega
      simp(disch:=omega);rotate_left;obtain ⟨mj,p1,p2⟩:=f2 j hj;obtain ⟨op2,n2,k2',mm2,a2,s4,s5,args2,ts2,ls2,pe⟩:=p2.form;rw [pe] at p2;have p3:=f1 (j+1) hj;obtain ⟨m4,m5,m6,q1,q2,q3,q4,q5,_⟩:=p2.inv;have q6:=q2.1;have q7:=q2.2;have q8:1<=m4:=by obtain ⟨m0,g1,_⟩:=q3.inv;omega
      simp(disch:=omega)[pe])
   | (refine Lp.strs (key:=7) (ls.length) (w+40000*m1+20000) f wS wO (fun rows j r1 r2 r3=>?_)
      have r4:=Zav (a:=rows);have r5:=f1 j r3;by_cases hj:j<ls.length;rotate_left;obtain rfl:j=ls.length:=by omega
      simp(disch:=omega);rotate_left;obtain ⟨mj,p1,p2⟩:=f2 j hj;obtain ⟨op2,n2,k2',mm2,a2,s4,s5,args2,ts2,ls2,pe⟩:=p2.form;rw [pe] at p2;have p3:=f1 (j+1) hj;obtain ⟨m4,m5,m6,q1,q2,q3,q4,q5,_⟩:=p2.inv;have q6:=q2.1;have q7:=q2.2;have q8:1<=m4:=by obtain ⟨m0,g1,_⟩:=q3.inv;omega
      by_cases hj0:j=0;subst hj0;simp(disch:=omega)[pe];rotate_left;simp(disch:=omega)[pe])
   | (refine Lp.strs (key:=8) (ls.length) (w+40000*m1+20000) f wS wO (fun rows j r1 r2 r3=>?_)
      have r4:=Zav (a:=rows);have r5:=f1 j r3;by_cases hj:j<ls.length;rotate_left;obtain rfl:j=ls.length:=by omega
      simp(disch:=omega);rotate_left;obtain ⟨mj,p1,p2⟩:=f2 j hj;obtain ⟨op2,n2,k2',mm2,a2,s4,s5,args2,ts2,ls2,pe⟩:=p2.form;rw [pe] at p2;have p3:=f1 (j+1) hj;obtain ⟨m4,m5,m6,q1,q2,q3,q4,q5,_⟩:=p2.inv;have q6:=q2.1;have q7:=q2.2;have q8:1<=m4:=by obtain ⟨m0,g1,_⟩:=q3.inv;omega
      simp(disch:=omega)[pe])
   | (refine Zaf (fun hc=>?_) (fun hc=>?_)<;>simp(disch:=omega)[hc,pe]<;>try simp only [Zx3] at hc)
   | (refine Zam (fun hc=>?_) (fun hc=>?_)<;>simp(disch:=omega)[hc]<;>try simp only [Zx3] at hc)
   | (refine Zaf (fun hc=>?_) (fun hc=>?_)<;>simp(disch:=omega)[hc]<;>try simp only [Zx3] at hc)
   | (exfalso;omega))
def Zd5 (H:Has S) (HP:HasP S): ∀n,OkPr S ZaC n/\OkPr S Za1 n
 | 0=>⟨fun _ _ _ _ _ _ _ _ _ _ _ _ _ h=>absurd h (YI _),fun _ _ _ _ _ _ _ _ _ _ _ _ _ h=>absurd h (YI _)⟩
 | n+1=>⟨fun _ _ _ _ _ _ _ _ _ _ _ _ _ hm hw hr hn hQ=>Zoy H HP (Zd5 H HP n).1 (Zd5 H HP n).2 hm hw hr hn hQ,
  fun _ _ _ _ _ _ _ _ _ _ _ _ _ hm hw hr hn hQ=>Zou H HP (Zd5 H HP n).1 (Zd5 H HP n).2 hm hw hr hn hQ⟩
end Go.Am.Fe
end
section
namespace Go.Am.Fe
variable {S:SF} {Q:QF}
attribute [local simp] ZbO if_pos if_neg decide_eq_true decide_eq_false Yi Yj ZgF
def andI (x y:Int):Int:=IntKind.i64.wrap ((BitVec.ofInt IntKind.i64.bits x &&& BitVec.ofInt IntKind.i64.bits y).toNat:Nat)
@[local simp] def Zox {x y:Int}:ZfP .and .i64 x y=some (.i (andI x y)):=rfl
def Zdj (H:Has S) (HP:HasP S) (n:Nat):OkPr S Za1 n:=(Zd5 H HP n).2
def Zb0 (H:Has S) (HP:HasP S) {mm:Nat} {op n' k m a:Int} {s s2:LN} {args ts ls rows:LP} (hw:wt rows+40000*mm<=2000000000) (hr:ZaL rows)
  (hn:IsNd mm (rN op s n' k s2 m args ts ls a)) (hQ:ZfX (wt rows+40000*mm-10000) Q):Gives S ZdX [.one (.tip 1 rows),aN op s n' k s2 m args ts ls a] [] Q:=by
 have hT:=Zdj H HP (mm+1);obtain ⟨m1,m2,m3,g1,⟨s1,s3⟩,g3,g4,g5,g6,g7,g7'⟩:=hn.inv;have hlen:=Zav (a:=rows);have g8:=g5.len;have g10:1<=m1:=by obtain ⟨m0,g1,_⟩:=g3.inv;omega
 obtain ⟨w,hw0⟩: ∃w,w=wt rows:=⟨_,rfl⟩
 obtain ⟨l,rfl,hg,hsz⟩:=g5;have k1:=Za2 (a:=[8]) (b:=[10]) Zd (l:=l);have k2:=Za2 (a:=[8,10]) (b:=[11]) Zd (l:=l);have k3:=Za2 (a:=[8,10,11]) (b:=[12]) Zd (l:=l);have k4:=Za2 (a:=[8,10,11,12]) (b:=[20]) Zd (l:=l);have k5:=Zot (a:=[8,10,11,12,20]) (l:=l);simp only [jD,YP] at k1 k2 k3 k4;refine .code H.ZrO rfl ?_;simp(disch:=omega)[ZgR];refine Zc2 H hg Zo wO wS (fun rows r6 r7=>?_);have r9:=Zav (a:=rows);(try simp only [wts] at r7);simp(disch:=omega);refine ZoY H hg Zo wO wS (fun rows r6 r7=>?_);have r9:=Zav (a:=rows);(try simp only [wts] at r7);simp(disch:=omega);rw [ZiS];refine Zse H (mm:=osz [11] l) Zo Zd hg rfl (Yc _) Zo fun q hq=>?_;obtain ⟨f,f0,f1,f2⟩:=hq.parts;have h8:=hq.len;have h9:=f1 _ (Yc _);simp(disch:=omega);refine Lp.strs2 q.length (w+9000+40000*osz [8] l+40000*osz [10] l) f wS wO (fun rows j r1 r2 r3=>?_);have r4:=Zav (a:=rows);have r5:=f1 j r3;by_cases hj:j<q.length
 ·obtain ⟨mj,p1,p2⟩:=f2 j hj;obtain ⟨op2,n2,k2',mm2,a2,s4,s5,args2,ts2,ls2,pe⟩:=p2.form;rw [pe] at p2;obtain ⟨m4,m5,m6,q1,q2,q3,q4,q5,_⟩:=p2.inv;have p3:=f1 (j+1) hj;simp(disch:=omega)[pe];refine Zbs H wO wS q3 (fun rows r6 r7=>?_);have r9:=Zav (a:=rows);(try simp only [wts] at r7);simp(disch:=omega)[pe];exact RdS2 Zo wS wO
 ·obtain rfl:j=q.length:=by omega
  simp(disch:=omega);refine ZnY H wO wS g3 (fun rows r6 r7=>?_);have r9:=Zav (a:=rows);(try simp only [wts] at r7);simp(disch:=omega);refine Zcx H hg Zo wO wS (fun rows r6 r7=>?_);have r9:=Zav (a:=rows);(try simp only [wts] at r7);simp(disch:=omega);rw [ZiS];refine Zse H (mm:=osz [20] l) Zo Zd hg rfl (Yc _) Zo fun q2 hq2=>?_;obtain ⟨f',f0',f1',f2'⟩:=hq2.parts;have h8':=hq2.len;have h9':=f1' _ (Yc _);simp(disch:=omega);refine Lp.strq q2.length (w+10000+40000*osz [8] l+40000*osz [10] l+40000*osz [11] l+40000*m1+40000*osz [12] l) f' wS wO (fun rows j r1 r2 r3=>?_);have r4:=Zav (a:=rows);have r5:=f1' j r3;by_cases hj:j<q2.length
  ·obtain ⟨mj,p1,p2⟩:=f2' j hj;obtain ⟨op2,n2,k2',mm2,a2,s4,s5,args2,ts2,ls2,pe⟩:=p2.form;rw [pe] at p2;have p3:=f1' (j+1) hj;simp(disch:=omega)[pe];refine hT _ _ _ _ _ _ _ _ _ _ _ _ _ Zo wO wS p2 (fun rows r6 r7=>?_);have r9:=Zav (a:=rows);(try simp only [wts] at r7);simp(disch:=omega)[pe];exact RdQ Zo wS wO
  ·obtain rfl:j=q2.length:=by omega
   simp(disch:=omega);exact hQ _ wS wO
def ZeO (H:Has S) (HP:HasP S) {mm:Nat} {op n' k m a:Int} {s s2:LN} {args ts ls rows:LP} (hw:wt rows+40000*mm+10000<=2000000000) (hr:ZaL rows)
   (hn:IsNd mm (rN op s n' k s2 m args ts ls a)) (hQ:ZfX (wt rows+40000*mm-9000) Q):Gives S Zhp [.one (.tip 1 rows),aN op s n' k s2 m args ts ls a] [] Q:=by
 have hT:=Zdj H HP (mm+1);obtain ⟨m1,m2,m3,g1,⟨s1,s3⟩,g3,g4,g5,g6,g7,g7'⟩:=hn.inv;obtain ⟨f,f0,f1,f2⟩:=g5.parts;have hlen:=Zav (a:=rows);have g8:=g5.len;have g9:=f1 _ (Yc _);have g10:1<=m1:=by obtain ⟨m0,g1,_⟩:=g3.inv;omega
 obtain ⟨w,hw0⟩: ∃w,w=wt rows:=⟨_,rfl⟩
 have hn2:=hn;obtain ⟨ft,ft0,ft1,ft2⟩:=g4.parts;have g12:=g4.len;have g13:=ft1 _ (Yc _);refine .code H.Zu1 rfl ?_;simp(disch:=omega)[Zjt]
 repeat' (first
   | exact hQ _ wS wO
   | exact RdS Zo wS wO
   | (refine hT _ _ _ _ _ _ _ _ _ _ _ _ _ Zo wO wS p2 (fun rows r6 r7=>?_);have r9:=Zav (a:=rows);(try simp only [wts] at r7);simp(disch:=omega)[pe])
   | (refine Zbs H wO wS g3 (fun rows r6 r7=>?_);have r9:=Zav (a:=rows);(try simp only [wts] at r7);simp(disch:=omega))
   | (refine Zbs H wO wS p2 (fun rows r6 r7=>?_);have r9:=Zav (a:=rows);(try simp only [wts] at r7);simp(disch:=omega)[pe])
   | (refine Zjf H wO wS hn2 (fun rows r6 r7=>?_);have r9:=Zav (a:=rows);(try simp only [wts] at r7);simp(disch:=omega))
   | (refine Zb0 H HP wO wS hn2 (fun rows r6 r7=>?_);have r9:=Zav (a:=rows);(try simp only [wts] at r7);simp(disch:=omega))
   | (refine Lp.strs (key:=5) (ls.length) (w+10000) f wS wO (fun rows j r1 r2 r3=>?_)
      have r4:=Zav (a:=rows);have r5:=f1 j r3;by_cases hj:j<ls.length;rotate_left;obtain rfl:j=ls.length:=by omega
      simp(disch:=omega);rotate_left;obtain ⟨mj,p1,p2⟩:=f2 j hj;obtain ⟨op2,n2,k2',mm2,a2,s4,s5,args2,ts2,ls2,pe⟩:=p2.form;rw [pe] at p2;have p3:=f1 (j+1) hj;obtain ⟨m4,m5,m6,q1,q2,q3,q4,q5,_⟩:=p2.inv;have q6:=q2.1;have q7:=q2.2;have q8:1<=m4:=by obtain ⟨m0,g1,_⟩:=q3.inv;omega
      simp(disch:=omega)[pe])
   | (refine Lp.strs (key:=6) (ts.length) (w+10000) ft wS wO (fun rows j r1 r2 r3=>?_)
      have r4:=Zav (a:=rows);have r5:=ft1 j r3;by_cases hj:j<ts.length;rotate_left;obtain rfl:j=ts.length:=by omega
      simp(disch:=omega);rotate_left;obtain ⟨mj,p1,p2⟩:=ft2 j hj;obtain ⟨k2,n2,s2',args2,pe⟩:=p2.form;rw [pe] at p2;have p3:=ft1 (j+1) hj;by_cases hj0:j=0;subst hj0;simp(disch:=omega)[pe];rotate_left;simp(disch:=omega)[pe])
   | (refine Zaf (fun hc=>?_) (fun hc=>?_)<;>simp(disch:=omega)[hc,pe]<;>try simp only [Zx3] at hc)
   | (refine Zaf (fun hc=>?_) (fun hc=>?_)<;>simp(disch:=omega)[hc]<;>try simp only [Zx3] at hc)
   | (exfalso;omega))
end Go.Am.Fe
end
