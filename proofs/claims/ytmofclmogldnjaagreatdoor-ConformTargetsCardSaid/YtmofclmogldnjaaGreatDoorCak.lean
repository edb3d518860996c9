/- Part. -/
import Derived.Test.YtmofclmogldnjaaGreatDoorCaj
set_option maxRecDepth 999999
set_option maxHeartbeats 0
set_option linter.all false
section
namespace Go.Am.Fe
variable {S:SF} {Q:QF}
attribute [local simp] ZbO if_pos if_neg decide_eq_true decide_eq_false Yi Yj ZgF
def ZaL (rs:LP):Prop:= ∀r∈rs,∃s,r=[.str s]/\Byt s
def wt:LP->Nat
 | []=>0
 | [.str s]::l=>s.length+1+wt l
 | _::l=>1+wt l
def Zag:wt []=0:=rfl
def Zae {s:LN} {l:LP}:wt ([.str s]::l)=s.length+1+wt l:=rfl
def Zah {a b:LP}:wt (a++b)=wt a+wt b:=by
 induction a with
 | nil=>simp [wt]
 | cons x a ih=>
   rcases x with _|⟨y,_|⟨z,x⟩⟩
   · show 1+wt (a++b)=1+wt a+wt b;rw [ih];omega
   · cases y with
     | str s=>show s.length+1+wt (a++b)=s.length+1+wt a+wt b;rw [ih];omega
     | _=>show 1+wt (a++b)=1+wt a+wt b;rw [ih];omega
   · cases y<;>(show 1+wt (a++b)=1+wt a+wt b;rw [ih];omega)
def Zav {a:LP}:a.length<=wt a:=by
 induction a with
 | nil=>simp
 | cons x a ih=>
   rcases x with _|⟨y,_|⟨z,x⟩⟩
   · show a.length+1<=1+wt a;omega
   · cases y with
     | str s=>show a.length+1<=s.length+1+wt a;omega
     | _=>show a.length+1<=1+wt a;omega
   · cases y<;>(show a.length+1<=1+wt a;omega)
def Zac:ZaL []=True:=by simp [ZaL]
def Zaa {s:LN} {l:LP}:ZaL ([.str s]::l)=(Byt s/\ZaL l):=by
 refine propext ⟨fun h=>⟨?_,fun r hr=>h r (Yk _ hr)⟩,fun h r hr=>?_⟩
 ·obtain ⟨s',e,hb⟩:=h _ Yr;cases e;exact hb
 ·rcases List.mem_cons.mp hr with rfl|hr
  ·exact ⟨s,rfl,h.1⟩
  ·exact h.2 r hr
def Zab {a b:LP}:ZaL (a++b)=(ZaL a/\ZaL b):=by
 refine propext ⟨fun h=>⟨fun r hr=>h r (List.mem_append_left _ hr),fun r hr=>h r (List.mem_append_right _ hr)⟩,fun h r hr=>?_⟩;rcases List.mem_append.mp hr with hr|hr
 ·exact h.1 r hr
 ·exact h.2 r hr
def wO {p:Prop} (h:p:=by first|omega|(simp only [Zah,Zae,Zag,Zx2];omega)):p:=h
def wR {p:Prop} (h:p:=by first|assumption|(simp only [Zab,Zaa,Zac,and_true];repeat' (first|assumption|apply And.intro|(simp [Byt])))):p:=h
def wts:(∀{a b:LP},wt (a++b)=wt a+wt b)/\(∀{s:LN} {l:LP},wt ([.str s]::l)=s.length+1+wt l)/\wt []=0/\(∀{α:Type} (a:α) (l:List α),(a::l).length=l.length+1)/\(∀{α:Type},([]:List α).length=0)/\(∀{α:Type} (a b:List α),(a++b).length=a.length+b.length)/\(∀{α:Type} (a:List α),a.tail.length=a.length-1)/\(∀{α:Type} (n:Nat) (a:List α),(a.drop n).length=a.length-n):=
 ⟨Zah,Zae,Zag,by simp,by simp,by simp,by simp,by simp⟩
def IsTys.uncons {m:Nat} {r:List P} {rs:LP} (h:IsTys m (r::rs)): ∃m1 m2,m1+m2<=m/\IsTy m1 r/\IsTys m2 rs:=by
 obtain ⟨l,e,g,hs⟩:=h;cases l with
 | nil=>simp [Ty.encs] at e
 | cons x l=>
   simp only [Ty.encs,Yf] at e;obtain ⟨rfl,rfl⟩:=e;exact ⟨_,_,hs,⟨_,rfl,g.1,Yc _⟩,⟨_,rfl,g.2,Yc _⟩⟩
theorem IsTys.parts {m:Nat} {rs:LP} (h:IsTys m rs): ∃f:Nat->Nat,f 0=0/\(∀j,j<=rs.length->f j<=m)/\ ∀j (hj:j<rs.length),∃mj,f (j+1)=f j+mj/\IsTy mj rs[j]:=by
 induction rs generalizing m with
 | nil=>exact ⟨fun _=>0,rfl,fun _ _=>Yd _,fun j hj=>by simp at hj⟩
 | cons r rs ih=>
   obtain ⟨m1,m2,h1,h2,h3⟩:=h.uncons;obtain ⟨f,f0,f1,f2⟩:=ih h3;refine ⟨fun j=>match j with|0=>0|j+1=>m1+f j,rfl,fun j hj=>?_,fun j hj=>?_⟩
   · cases j with
     | zero=>exact Yd _
     | succ j=>have:=f1 j (by simpa using hj);show m1+f j<=m;omega
   · cases j with
     | zero=>exact ⟨m1,by show m1+f 0=0+m1;omega,h2⟩
     | succ j=>
       obtain ⟨mj,e,g⟩:=f2 j (by simpa using hj);exact ⟨mj,by show m1+f (j+1)=m1+f j+mj;omega,g⟩
theorem IsNds.parts {m:Nat} {rs:LP} (h:IsNds m rs): ∃f:Nat->Nat,f 0=0/\(∀j,j<=rs.length->f j<=m)/\ ∀j (hj:j<rs.length),∃mj,f (j+1)=f j+mj/\IsNd mj rs[j]:=by
 induction rs generalizing m with
 | nil=>exact ⟨fun _=>0,rfl,fun _ _=>Yd _,fun j hj=>by simp at hj⟩
 | cons r rs ih=>
   obtain ⟨m1,m2,h1,h2,h3⟩:=h.uncons;obtain ⟨f,f0,f1,f2⟩:=ih h3;refine ⟨fun j=>match j with|0=>0|j+1=>m1+f j,rfl,fun j hj=>?_,fun j hj=>?_⟩
   · cases j with
     | zero=>exact Yd _
     | succ j=>have:=f1 j (by simpa using hj);show m1+f j<=m;omega
   · cases j with
     | zero=>exact ⟨m1,by show m1+f 0=0+m1;omega,h2⟩
     | succ j=>
       obtain ⟨mj,e,g⟩:=f2 j (by simpa using hj);exact ⟨mj,by show m1+f (j+1)=m1+f j+mj;omega,g⟩
def IsTy.form {m:Nat} {r:List P} (h:IsTy m r): ∃(k n:Int) (s:LN) (args:LP),r=[.i k,.str s,.i n,.sl 4 args]:=by
 obtain ⟨⟨k,s,n,args⟩,rfl,_⟩:=h;exact ⟨_,_,_,_,rfl⟩
def IsTy.inv {mm:Nat} {k n:Int} {s:LN} {args:LP} (h:IsTy mm [.i k,.str s,.i n,.sl 4 args]):
  ∃m1,m1+1<=mm/\Str s/\IsTys m1 args/\((k=5∨k=8∨k=11)->args≠[]):=by
 obtain ⟨⟨k',s',n',args'⟩,e,⟨g1,g2,g3⟩,h3⟩:=h;simp only [Ty.enc,Yf,P.int.injEq,P.str.injEq,P.sl.injEq,true_and,and_true] at e;obtain ⟨rfl,rfl,rfl,rfl⟩:=e;refine ⟨_,?_,g1,⟨_,rfl,g3,Yc _⟩,fun h e=>g2 h ?_⟩
 ·have:1+Ty.szs args'<=mm:=h3;omega
 ·cases args' with
  | nil=>rfl
  | cons x y=>simp [Ty.encs] at e
def ZfX (w:Nat) (Q:QF):Prop:= ∀rows:LP,ZaL rows->wt rows<=w->Q [.one (.tip 1 rows)] []
def Ztu (S:SF) (n:Nat):Prop:= ∀(mm:Nat) (k m:Int) (s:LN) (args rows:LP) (Q:QF),mm<n->wt rows+40000*mm<=2000000000->ZaL rows->
 IsTy mm [.i k,.str s,.i m,.sl 4 args]->ZfX (wt rows+40000*mm-1000) Q->Gives S Za6 [.one (.tip 1 rows),aT k s m args] [] Q
def stS (key κ' κ:Nat) (box:LC) (b:LP×Nat):Env:=[(0,.a (.one (.tip 1 b.1))),(κ',.a (.one (.ref ⟨true,κ,0⟩))),(key,.a (pi b.2)),o9,(κ,.a (.agg box))]
def prS (n W:Nat) (f:Nat->Nat) (b:LP×Nat):Prop:=ZaL b.1/\wt b.1<=W+40000*f b.2/\b.2<=n
def Lp.strs {live:LN} {b:SCode} {kk:List Fr} {Q':X->Env->Prop} {key κ' κ:Nat} {box:LC} {rows:LP} (n W:Nat) (f:Nat->Nat) (h0:ZaL rows) (h1:wt rows<=W+40000*f 0)
  (h: ∀(rows:LP) (j:Nat),ZaL rows->wt rows<=W+40000*f j->j<=n->Go S b [(0,.a (.one (.tip 1 rows))),(κ',.a (.one (.ref ⟨true,κ,0⟩))),(key,.a (pi j)),o9,(κ,.a (.agg box))] (.inv (Rd live (stS key κ' κ box) (prS n W f) (fun b=>n-b.2) (rows,j))::kk) Q'):
  Lp S live b [(0,.a (.one (.tip 1 rows))),(κ',.a (.one (.ref ⟨true,κ,0⟩))),(key,.a (.one (.i 0))),o9,(κ,.a (.agg box))] kk Q':=
 Lp.rule (stS key κ' κ box) (prS n W f) (fun b=>n-b.2) (a₀:=(rows,0)) rfl ⟨h0,h1,Yd _⟩ fun a ha=>h a.1 a.2 ha.1 ha.2.1 ha.2.2
def RdS {key κ' κ n W:Nat} {f:Nat->Nat} {box:LC} {rows rows':LP} {j:Nat} (h1:j<n) (h2:ZaL rows') (h3:wt rows'<=W+40000*f (j+1)):
  RdN (stS key κ' κ box) (prS n W f) (fun b=>n-b.2) (rows,j) [(0,.a (.one (.tip 1 rows'))),(κ',.a (.one (.ref ⟨true,κ,0⟩))),(key,.a (.one (.p (.i ((j:Int)+1))))),o9,(κ,.a (.agg box))]:=
 ⟨(rows',j+1),rfl,⟨h2,h3,h1⟩,dO⟩
def Zp6 (H:Has S) {n:Nat} (ih:Ztu S n):Ztu S (n+1):=by
 intro mm k m s args rows Q hm hw hr ht hQ;obtain ⟨m1,g1,⟨s1,s2⟩,g2,g3⟩:=ht.inv;obtain ⟨f,f0,f1,f2⟩:=g2.parts;have hlen:=Zav (a:=rows);have g4:=g2.len;have g5:=f1 _ (Yc _);obtain ⟨w,hw0⟩: ∃w,w=wt rows:=⟨_,rfl⟩
 by_cases hz:args.length=0
 · refine .code H.ZsP rfl ?_;simp(disch:=omega)[Ziz]
   repeat' (first
     | (exfalso;omega)
     | exact hQ _ (by first|assumption|(simp only [Zab,Zaa,Zac,and_true];repeat' (first
     | (exfalso;omega)|assumption|apply And.intro|(simp [Byt])))) wO
     | exact RdS Zo (by first|assumption|(simp only [Zab,Zaa,Zac,and_true];repeat' (first
     | (exfalso;omega)|assumption|apply And.intro|(simp [Byt])))) wO
     | (refine ih _ _ _ _ _ _ _ Zo wO (by first|assumption|(simp only [Zab,Zaa,Zac,and_true];repeat' (first
     | (exfalso;omega)|assumption|apply And.intro|(simp [Byt])))) p2 (fun rows r6 r7=>?_);(try simp only [wts] at r7);simp(disch:=omega))
     | (refine ih _ _ _ _ _ _ _ Zo wO (by first|assumption|(simp only [Zab,Zaa,Zac,and_true];repeat' (first
     | (exfalso;omega)|assumption|apply And.intro|(simp [Byt])))) pl2 (fun rows r6 r7=>?_);(try simp only [wts] at r7);simp(disch:=omega))
     | (refine Zaf (fun hc=>?_) (fun hc=>?_)<;>simp(disch:=omega)[hc,pe]<;>try simp only [Zx3] at hc)
     | (refine Zaf (fun hc=>?_) (fun hc=>?_)<;>simp(disch:=omega)[hc]<;>try simp only [Zx3] at hc)
     | (refine Lp.strs (key:=5) (args.length) (w+10000) f (by first|assumption|(simp only [Zab,Zaa,Zac,and_true];repeat' (first
     | (exfalso;omega)|assumption|apply And.intro|(simp [Byt])))) wO (fun rows j r1 r2 r3=>?_)
        have r4:=Zav (a:=rows);have r5:=f1 j Zo;have r8:j+1=args.length->f j=f (args.length-1):=fun e=>by rw [<-e];rfl
        by_cases hj:j<args.length;rotate_left;simp(disch:=omega);rotate_left;obtain ⟨mj,p1,p2⟩:=f2 j Zo;obtain ⟨k2,n2,s2',args2,pe⟩:=p2.form;rw [pe] at p2;have p3:=f1 (j+1) Zo;by_cases hj0:j=0;subst hj0;simp(disch:=omega)[pe];rotate_left;simp(disch:=omega)[pe])
     | (refine Lp.strs (key:=6) (args.length-1) (w+10000) f (by first|assumption|(simp only [Zab,Zaa,Zac,and_true];repeat' (first
     | (exfalso;omega)|assumption|apply And.intro|(simp [Byt])))) wO (fun rows j r1 r2 r3=>?_)
        have r4:=Zav (a:=rows);have r5:=f1 j Zo;have r8:j+1=args.length->f j=f (args.length-1):=fun e=>by rw [<-e];rfl
        by_cases hj:j+1<args.length;rotate_left;simp(disch:=omega);rotate_left;obtain ⟨mj,p1,p2⟩:=f2 j Zo;obtain ⟨k2,n2,s2',args2,pe⟩:=p2.form;rw [pe] at p2;have p3:=f1 (j+1) Zo;by_cases hj0:j=0;subst hj0;simp(disch:=omega)[pe];rotate_left;simp(disch:=omega)[pe])
     | (refine Lp.strs (key:=7) (args.length) (w+10000) f (by first|assumption|(simp only [Zab,Zaa,Zac,and_true];repeat' (first
     | (exfalso;omega)|assumption|apply And.intro|(simp [Byt])))) wO (fun rows j r1 r2 r3=>?_)
        have r4:=Zav (a:=rows);have r5:=f1 j Zo;have r8:j+1=args.length->f j=f (args.length-1):=fun e=>by rw [<-e];rfl
        by_cases hj:j<args.length;rotate_left;simp(disch:=omega);rotate_left;obtain ⟨mj,p1,p2⟩:=f2 j Zo;obtain ⟨k2,n2,s2',args2,pe⟩:=p2.form;rw [pe] at p2;have p3:=f1 (j+1) Zo;by_cases hj0:j=0;subst hj0;simp(disch:=omega)[pe];rotate_left;simp(disch:=omega)[pe]))
 · obtain ⟨ml,pl1,pl2⟩:=f2 (args.length-1) Zo;obtain ⟨k3,n3,s3,args3,pel⟩:=pl2.form;rw [pel] at pl2;have hz1:args.length-1+1=args.length:=by omega
   rw [hz1] at pl1;refine .code H.ZsP rfl ?_;simp(disch:=omega)[Ziz]
   repeat' (first
     | exact hQ _ wR wO
     | exact RdS Zo wR wO
     | (refine ih _ _ _ _ _ _ _ Zo wO wR p2 (fun rows r6 r7=>?_);(try simp only [wts] at r7);simp(disch:=omega))
     | (refine ih _ _ _ _ _ _ _ Zo wO wR pl2 (fun rows r6 r7=>?_);(try simp only [wts] at r7);simp(disch:=omega))
     | (refine Zaf (fun hc=>?_) (fun hc=>?_)<;>simp(disch:=omega)[hc,pe,pel]<;>try simp only [Zx3] at hc)
     | (refine Zaf (fun hc=>?_) (fun hc=>?_)<;>simp(disch:=omega)[hc,pel]<;>try simp only [Zx3] at hc)
     | (refine Lp.strs (key:=5) (args.length) (w+10000) f wR wO (fun rows j r1 r2 r3=>?_)
        have r4:=Zav (a:=rows);have r5:=f1 j Zo;have r8:j+1=args.length->f j=f (args.length-1):=fun e=>by rw [<-e];rfl
        by_cases hj:j<args.length;rotate_left;simp(disch:=omega)[pel];rotate_left;obtain ⟨mj,p1,p2⟩:=f2 j Zo;obtain ⟨k2,n2,s2',args2,pe⟩:=p2.form;rw [pe] at p2;have p3:=f1 (j+1) Zo;by_cases hj0:j=0;subst hj0;simp(disch:=omega)[pe];rotate_left;simp(disch:=omega)[pe])
     | (refine Lp.strs (key:=6) (args.length-1) (w+10000) f wR wO (fun rows j r1 r2 r3=>?_)
        have r4:=Zav (a:=rows);have r5:=f1 j Zo;have r8:j+1=args.length->f j=f (args.length-1):=fun e=>by rw [<-e];rfl
        by_cases hj:j+1<args.length;rotate_left;simp(disch:=omega)[pel];rotate_left;obtain ⟨mj,p1,p2⟩:=f2 j Zo;obtain ⟨k2,n2,s2',args2,pe⟩:=p2.form;rw [pe] at p2;have p3:=f1 (j+1) Zo;by_cases hj0:j=0;subst hj0;simp(disch:=omega)[pe];rotate_left;simp(disch:=omega)[pe])
     | (refine Lp.strs (key:=7) (args.length) (w+10000) f wR wO (fun rows j r1 r2 r3=>?_)
        have r4:=Zav (a:=rows);have r5:=f1 j Zo;have r8:j+1=args.length->f j=f (args.length-1):=fun e=>by rw [<-e];rfl
        by_cases hj:j<args.length;rotate_left;simp(disch:=omega)[pel];rotate_left;obtain ⟨mj,p1,p2⟩:=f2 j Zo;obtain ⟨k2,n2,s2',args2,pe⟩:=p2.form;rw [pe] at p2;have p3:=f1 (j+1) Zo;by_cases hj0:j=0;subst hj0;simp(disch:=omega)[pe];rotate_left;simp(disch:=omega)[pe]))
def ZqG (H:Has S): ∀n,Ztu S n
 | 0=>fun _ _ _ _ _ _ _ h=>by omega
 | n+1=>Zp6 H (ZqG H n)
def Zbs (H:Has S) {mm:Nat} {k m:Int} {s:LN} {args rows:LP} (hw:wt rows+40000*mm<=2000000000) (hr:ZaL rows)
 (ht:IsTy mm (rT k s m args)) (hQ:ZfX (wt rows+40000*mm-1000) Q):Gives S Za6 [.one (.tip 1 rows),aT k s m args] [] Q:=
 ZqG H (mm+1) mm k m s args rows Q (Yz _) hw hr ht hQ
def Zzz (S:SF) (n:Nat):Prop:= ∀(mm:Nat) (k m mo:Int) (s:LN) (args:LP) (Q:QF),mm<n->mm<=1000000->
 IsTy mm (rT k s m args)->(∀x:Int,Q [pi x] [])->Gives S Zgc [aT k s m args,pi mo] [] Q
def Zqn (H:Has S): ∀n,Zzz S n
 | 0=>fun mm _ _ _ _ _ _ h=>by omega
 | n+1=>by
   intro mm k m mo s args Q hm hmm ht hQ;have ih:=Zqn H n;obtain ⟨m1,g1,⟨s1,s2⟩,g2,g3⟩:=ht.inv;obtain ⟨f,f0,f1,f2⟩:=g2.parts;have g4:=g2.len;have loop: ∀(z:Int) (b:SCode) (kk:List Fr) (Q':X->Env->Prop),
       (∀(z:Int) (j:Nat),j<=args.length->Go S b [(1,.a (pi mo)),fR 2,(5,.a (pi z)),(6,.a (pi j)),o9,(10002,.a (aT k s m args))] (.inv (Rd [1,2,5,6,9999,10002] (fun (a:Int×Nat)=>[(1,.a (pi mo)),fR 2,(5,.a (pi a.1)),(6,.a (pi a.2)),o9,(10002,.a (aT k s m args))]) (fun a=>a.2<=args.length) (fun a=>args.length-a.2) (z,j))::kk) Q')->
       Lp S [1,2,5,6,9999,10002] b [(1,.a (pi mo)),fR 2,(5,.a (.one (.i z))),(6,.a (.one (.i 0))),o9,(10002,.a (aT k s m args))] kk Q':=fun z b kk Q' h=>
     Lp.rule _ _ _ (a₀:=(z,0)) rfl (Yd _) fun a ha=>h a.1 a.2 ha
   have body: ∀(z:Int) (j:Nat) (hj:j<args.length),∃mj,IsTy mj args[j]/\mj<n/\mj<=1000000:=fun z j hj=>by
     obtain ⟨mj,p1,p2⟩:=f2 j hj;have:=f1 (j+1) hj;exact ⟨mj,p2,by omega,by omega⟩
   refine .code H.ZxO rfl ?_;simp(disch:=omega)[ZnE]
   repeat' (first
     | exact hQ _
     | exact ⟨(_,j+1),rfl,hj,dO⟩
     | (refine ih _ _ _ _ _ _ _ q2 q3 q1 (fun x=>?_);simp(disch:=omega))
     | (refine loop _ _ _ _ (fun z j k1=>?_)
        by_cases hj:j<args.length;rotate_left;simp(disch:=omega);rotate_left;obtain ⟨mj,q1,q2,q3⟩:=body z j hj;obtain ⟨k2,n2,s2',args2,pe⟩:=q1.form;rw [pe] at q1;simp(disch:=omega)[pe])
     | (refine Zaf (fun hc=>?_) (fun hc=>?_)<;>simp(disch:=omega)[hc,pe])
     | (refine Zaf (fun hc=>?_) (fun hc=>?_)<;>simp(disch:=omega)[hc])
     | (refine Zam (fun hc=>?_) (fun hc=>?_)<;>simp(disch:=omega)[hc]))
def Zqg (H:Has S) {mm:Nat} {k m mo:Int} {s:LN} {args:LP} (hmm:mm<=1000000) (ht:IsTy mm (rT k s m args)) (hQ: ∀x:Int,Q [pi x] []):
 Gives S Zgc [aT k s m args,pi mo] [] Q:=Zqn H (mm+1) mm _ _ _ _ _ _ (Yz _) hmm ht hQ
def ZAY (S:SF) (n:Nat):Prop:= ∀(mm:Nat) (op n' k m a mo:Int) (s s2:LN) (args ts ls:LP) (Q:QF),mm<n->mm<=1000000->
 IsNd mm (rN op s n' k s2 m args ts ls a)->(∀x:Int,Q [pi x] [])->Gives S Zjl [aN op s n' k s2 m args ts ls a,pi mo] [] Q
def Ztj (H:Has S): ∀n,ZAY S n
 | 0=>fun mm _ _ _ _ _ _ _ _ _ _ _ _ h=>by omega
 | n+1=>by
   intro mm op n' k m a mo s s2 args ts ls Q hm hmm hn hQ;have ih:=Ztj H n;obtain ⟨m1,m2,m3,g1,⟨s1,s3⟩,g3,g4,g5,g6,g7⟩:=hn.inv;obtain ⟨f,f0,f1,f2⟩:=g4.parts;obtain ⟨f',f0',f1',f2'⟩:=g5.parts;have g8:=g4.len;have g9:=g5.len;have loop6: ∀(z:Int) (b:SCode) (kk:List Fr) (Q':X->Env->Prop),
       (∀(z:Int) (j:Nat),j<=ts.length->Go S b [(1,.a (pi mo)),fR 2,(5,.a (pi z)),(6,.a (pi j)),o9,(10002,.a (aN op s n' k s2 m args ts ls a))] (.inv (Rd [1,2,5,6,9999,10002] (fun (a':Int×Nat)=>[(1,.a (pi mo)),fR 2,(5,.a (pi a'.1)),(6,.a (pi a'.2)),o9,(10002,.a (aN op s n' k s2 m args ts ls a))]) (fun a=>a.2<=ts.length) (fun a=>ts.length-a.2) (z,j))::kk) Q')->
       Lp S [1,2,5,6,9999,10002] b [(1,.a (pi mo)),fR 2,(5,.a (.one (.i z))),(6,.a (.one (.i 0))),o9,(10002,.a (aN op s n' k s2 m args ts ls a))] kk Q':=fun z b kk Q' h=>
     Lp.rule _ _ _ (a₀:=(z,0)) rfl (Yd _) fun a ha=>h a.1 a.2 ha
   have loop7: ∀(z:Int) (b:SCode) (kk:List Fr) (Q':X->Env->Prop),
       (∀(z:Int) (j:Nat),j<=ls.length->Go S b [(1,.a (pi mo)),fR 2,(5,.a (pi z)),(7,.a (pi j)),o9,(10002,.a (aN op s n' k s2 m args ts ls a))] (.inv (Rd [1,2,5,7,9999,10002] (fun (a':Int×Nat)=>[(1,.a (pi mo)),fR 2,(5,.a (pi a'.1)),(7,.a (pi a'.2)),o9,(10002,.a (aN op s n' k s2 m args ts ls a))]) (fun a=>a.2<=ls.length) (fun a=>ls.length-a.2) (z,j))::kk) Q')->
       Lp S [1,2,5,7,9999,10002] b [(1,.a (pi mo)),fR 2,(5,.a (.one (.i z))),(7,.a (.one (.i 0))),o9,(10002,.a (aN op s n' k s2 m args ts ls a))] kk Q':=fun z b kk Q' h=>
     Lp.rule _ _ _ (a₀:=(z,0)) rfl (Yd _) fun a ha=>h a.1 a.2 ha
   have bodyT: ∀(j:Nat) (hj:j<ts.length),∃mj,IsTy mj ts[j]/\mj<=1000000:=fun j hj=>by
     obtain ⟨mj,p1,p2⟩:=f2 j hj;have:=f1 (j+1) hj;exact ⟨mj,p2,by omega⟩
   have bodyN: ∀(j:Nat) (hj:j<ls.length),∃mj,IsNd mj ls[j]/\mj<n/\mj<=1000000:=fun j hj=>by
     obtain ⟨mj,p1,p2⟩:=f2' j hj;have:=f1' (j+1) hj;exact ⟨mj,p2,by omega,by omega⟩
   refine .code H.ZBa rfl ?_;simp(disch:=omega)[Zqe]
   repeat' (first
     | exact hQ _
     | exact ⟨(_,j+1),rfl,hj,dO⟩
     | (refine ih _ _ _ _ _ _ _ _ _ _ _ _ _ q2 q3 q1 (fun x=>?_);simp(disch:=omega))
     | (refine Zqg H q3 q1 (fun x=>?_);simp(disch:=omega))
     | (refine Zqg H Zo g3 (fun x=>?_);simp(disch:=omega))
     | (refine loop6 _ _ _ _ (fun z j k1=>?_)
        by_cases hj:j<ts.length;rotate_left;simp(disch:=omega);rotate_left;obtain ⟨mj,q1,q3⟩:=bodyT j hj;obtain ⟨k2,n2,s2',args2,pe⟩:=q1.form;rw [pe] at q1;simp(disch:=omega)[pe])
     | (refine loop7 _ _ _ _ (fun z j k1=>?_)
        by_cases hj:j<ls.length;rotate_left;simp(disch:=omega);rotate_left;obtain ⟨mj,q1,q2,q3⟩:=bodyN j hj;obtain ⟨op2,n2,k2,mm2,a2,s4,s5,args2,ts2,ls2,pe⟩:=q1.form;rw [pe] at q1;simp(disch:=omega)[pe])
     | (refine Zaf (fun hc=>?_) (fun hc=>?_)<;>simp(disch:=omega)[hc,pe])
     | (refine Zaf (fun hc=>?_) (fun hc=>?_)<;>simp(disch:=omega)[hc])
     | (refine Zam (fun hc=>?_) (fun hc=>?_)<;>simp(disch:=omega)[hc]))
def Zwy (H:Has S) {mm:Nat} {op n' k m a mo:Int} {s s2:LN} {args ts ls:LP} (hmm:mm<=1000000) (hn:IsNd mm (rN op s n' k s2 m args ts ls a)) (hQ: ∀x:Int,Q [pi x] []):
 Gives S Zjl [aN op s n' k s2 m args ts ls a,pi mo] [] Q:=Ztj H (mm+1) mm _ _ _ _ _ _ _ _ _ _ _ _ (Yz _) hmm hn hQ
def Nd.op:Nd->Int
 | .mk op _ _ _ _ _ _=>op
def osz (ops:List Int):List Nd->Nat
 | []=>0
 | x::l=>(if x.op∈ops then x.sz else 0)+osz ops l
theorem Zql {ops:List Int} {l:List Nd} (hg:Nd.goods l): ∃f:Nat->Nat,f 0=0/\(∀j,j<=(Nd.encs l).length->f j<=osz ops l)/\ ∀j (hj:j<(Nd.encs l).length),
   ∃(mj:Nat) (op n k m a:Int) (s s2:LN) (args ts ls:LP),(Nd.encs l)[j]=[.i op,.str s,.i n,.i k,.str s2,.i m,.sl 4 args,.sl 4 ts,.sl 10 ls,.i a]/\
     IsNd mj (rN op s n k s2 m args ts ls a)/\f j<=f (j+1)/\(op∈ops->f (j+1)=f j+mj):=by
 induction l with
 | nil=>exact ⟨fun _=>0,rfl,fun _ _=>Yd _,fun j hj=>by simp [Nd.encs] at hj⟩
 | cons x l ih=>
   obtain ⟨f,f0,f1,f2⟩:=ih hg.2;refine ⟨fun j=>match j with|0=>0|j+1=>(if x.op∈ops then x.sz else 0)+f j,rfl,fun j hj=>?_,fun j hj=>?_⟩
   · cases j with
     | zero=>exact Yd _
     | succ j=>
       have:=f1 j (by simpa [Nd.encs] using hj);show (if x.op∈ops then x.sz else 0)+f j<=(if x.op∈ops then x.sz else 0)+osz ops l;omega
   · cases j with
     | zero=>
       obtain ⟨op,s,n,⟨k,s2,m,args⟩,ts,ls,a⟩:=x;refine ⟨Nd.sz _,op,n,k,m,a,s,s2,Ty.encs args,Ty.encs ts,Nd.encs ls,rfl,⟨_,rfl,hg.1,Yc _⟩,Yd _,fun h=>?_⟩;show (if op∈ops then Nd.sz _ else 0)+f 0=0+Nd.sz _;rw [if_pos h,f0];omega
     | succ j=>
       obtain ⟨mj,op,n,k,m,a,s,s2,args,ts,ls,e,g,h1,h2⟩:=f2 j (by simpa [Nd.encs] using hj);refine ⟨mj,op,n,k,m,a,s,s2,args,ts,ls,e,g,?_,fun h=>?_⟩
       · show (if x.op∈ops then x.sz else 0)+f j<=(if x.op∈ops then x.sz else 0)+f (j+1);omega
       · have:=h2 h;show (if x.op∈ops then x.sz else 0)+f (j+1)=(if x.op∈ops then x.sz else 0)+f j+mj;omega
def Zse (H:Has S) {mm:Nat} {op n' k m a:Int} {s s2:LN} {args ts ls:LP} {ops:List Int} (hmm:mm<=1000000) (ho:ops.length<=10) {l:List Nd} (hg:Nd.goods l) (he:Nd.encs l=ls) (hm:osz ops l<=mm) (hll:ls.length<=1000000)
  (hQ: ∀rs:LP,IsNds (osz ops l) rs->Q [.one (.l 10 rs)] []):
  Gives S ZjU [aN op s n' k s2 m args ts ls a,.one (.l 1 (ZaX ops))] [] Q:=by
 subst he;obtain ⟨f,f0,f1,f2⟩:=Zql (ops:=ops) hg;generalize Nd.encs l=ls at f1 f2 hll⊢;refine .code H.ZDf rfl ?_;simp(disch:=omega)[Ztq];refine Lp.rule (fun (b:LP×Nat)=>[(1,.a (.one (.l 1 (ZaX ops)))),fR 2,(5,.a (.one (.tip 10 b.1))),(6,.a (pi b.2)),o9,(10002,.a (aN op s n' k s2 m args ts ls a))])
   (fun b=>IsNds (f b.2) b.1/\b.2<=ls.length) (fun b=>ls.length-b.2) (a₀:=([],0)) Zs ⟨IsNds.nil.le (Yd _),Yd _⟩ ?_
 rintro ⟨rs,i⟩ ⟨k1,k2⟩;dsimp only at k1 k2;have k3:=k1.len;have k4:=f1 i k2;by_cases hi:i<ls.length
 · obtain ⟨mi,op2,n2,k2',mm2,a2,s4,s5,args2,ts2,ls2,pe,p2,p3,p4⟩:=f2 i hi;simp(disch:=omega);refine Lp.rule (fun (j:Nat)=>[(1,.a (.one (.l 1 (ZaX ops)))),fR 2,(5,.a (.one (.tip 10 rs))),(6,.a (pi i)),(7,.a (pi j)),o9,(10002,.a (aN op s n' k s2 m args ts ls a))])
    (fun j=>j<=ops.length) (fun j=>ops.length-j) (a₀:=0) Zs (Yd _) ?_
   intro j hj;by_cases hjl:j<ops.length
   ·have hx:(ZaX ops)[j]? =some [.i ops[j]]:=by simp [ZaX,hjl]
    have hx2:(ZaX ops)[j]'(by simpa using hjl)=[.i ops[j]]:=by simp [ZaX]
    simp(disch:=omega)[pe,hx,hx2];refine Zaf (fun hc=>?_) (fun hc=>?_)
    ·simp(disch:=omega)[hc,pe];have hin:op2∈ops:=by
      have:op2=ops[j]:=by simpa using hc
      rw [this];exact Yl hjl
     have p5:=p4 hin;exact ⟨(_,i+1),rfl,⟨(k1.snoc p2).le dO,hi⟩,dO⟩
    ·simp(disch:=omega)[hc];exact ⟨j+1,rfl,hjl,dO⟩
   ·simp(disch:=omega);exact ⟨(rs,i+1),rfl,⟨k1.le dO,hi⟩,dO⟩
 · simp(disch:=omega);exact hQ _ (k1.le k4)
def ZnY (H:Has S) {mm:Nat} {k m:Int} {s:LN} {args rows:LP} (hw:wt rows+40000*mm+10<=2000000000) (hr:ZaL rows)
 (ht:IsTy mm (rT k s m args)) (hQ:ZfX (wt rows+40000*mm) Q):Gives S ZfO [.one (.tip 1 rows),aT k s m args] [] Q:=by
 have hlen:=Zav (a:=rows);have ht0:1<=mm:=by obtain ⟨m1,g1,_⟩:=ht.inv;omega
 refine .code H.Zve rfl ?_;simp(disch:=omega)[Zjx]
 repeat' (first
    | exact hQ _ wR wO
    | (refine Zbs H wO wR ht (fun rows r1 r2=>?_);(try simp only [Zah,Zae,Zag,YO,qX] at r2);simp(disch:=omega))
    | (refine Zaf (fun hc=>?_) (fun hc=>?_)<;>simp(disch:=omega)[hc]))
def ZqY (H:Has S) {n:Int} (hQ: ∀s:LN,s.length<=5->Byt s->Q [ps s] []):Gives S Zgx [pi n] [] Q:=by
 refine .code H.Zxb rfl ?_;simp(disch:=omega)[Zln]
 repeat' (first
    | exact hQ _ Zd (by simp [Byt])
    | (refine Zaf (fun hc=>?_) (fun hc=>?_)<;>simp(disch:=omega)[hc]))
def Zqm (H:Has S) {op n' k m a:Int} {s s2:LN} {args ts ls:LP} (hQ: ∀b:Bool,Q [pb b] []):Gives S ZgZ [aN op s n' k s2 m args ts ls a] [] Q:=by
 refine .code H.ZwC rfl ?_;simp(disch:=omega)[Zlq]
 repeat' (first
    | exact hQ _
    | (refine Zaf (fun hc=>?_) (fun hc=>?_)<;>simp(disch:=omega)[hc])
    | (refine Zam (fun hc=>?_) (fun hc=>?_)<;>simp(disch:=omega)[hc]))
def Zjf (H:Has S) {mm:Nat} {op n' k m a:Int} {s s2:LN} {args ts ls rows:LP} (hw:wt rows+40000*mm<=2000000000) (hr:ZaL rows)
 (hn:IsNd mm (rN op s n' k s2 m args ts ls a)) (hQ:ZfX (wt rows+40000*mm-30000) Q):Gives S ZeS [.one (.tip 1 rows),aN op s n' k s2 m args ts ls a] [] Q:=by
 obtain ⟨m1,m2,m3,g1,⟨s1,s3⟩,g3,g4,g5,g6,g7⟩:=hn.inv;obtain ⟨f,f0,f1,f2⟩:=g5.parts;have hlen:=Zav (a:=rows);have g8:=g5.len;have g9:=f1 _ (Yc _);obtain ⟨w,hw0⟩: ∃w,w=wt rows:=⟨_,rfl⟩
 refine .code H.ZsG rfl ?_;simp(disch:=omega)[ZhN];refine Lp.strs (key:=5) ls.length w f wR wO (fun rows j r1 r2 r3=>?_);have r4:=Zav (a:=rows);have r5:=f1 j r3;by_cases hj:j<ls.length
 ·obtain ⟨mj,p1,p2⟩:=f2 j hj;obtain ⟨op2,n2,k2',mm2,a2,s4,s5,args2,ts2,ls2,pe⟩:=p2.form;rw [pe] at p2;obtain ⟨_,_,_,e1,⟨e2,e3⟩,_⟩:=p2.inv;have p3:=f1 (j+1) hj;by_cases hj0:j=0
  ·subst hj0;simp(disch:=omega)[pe];exact RdS Zo wR wO
  ·simp(disch:=omega)[pe];exact RdS Zo wR wO
 ·have:j=ls.length:=by omega
  subst this;simp(disch:=omega);exact hQ _ wR wO
def stQ (qk key:Nat) (q:C) (b:LP×Nat):Env:=[(0,.a (.one (.tip 1 b.1))),(qk,.a (.one q)),(key,.a (pi b.2)),o9]
def Lp.strq {live:LN} {b:SCode} {kk:List Fr} {Q':X->Env->Prop} {key qk:Nat} {q:C} {rows:LP} (n W:Nat) (f:Nat->Nat) (h0:ZaL rows) (h1:wt rows<=W+40000*f 0)
  (h: ∀(rows:LP) (j:Nat),ZaL rows->wt rows<=W+40000*f j->j<=n->Go S b [(0,.a (.one (.tip 1 rows))),(qk,.a (.one q)),(key,.a (pi j)),o9] (.inv (Rd live (stQ qk key q) (prS n W f) (fun b=>n-b.2) (rows,j))::kk) Q'):
  Lp S live b [(0,.a (.one (.tip 1 rows))),(qk,.a (.one q)),(key,.a (.one (.i 0))),o9] kk Q':=
 Lp.rule (stQ qk key q) (prS n W f) (fun b=>n-b.2) (a₀:=(rows,0)) rfl ⟨h0,h1,Yd _⟩ fun a ha=>h a.1 a.2 ha.1 ha.2.1 ha.2.2
def RdQ {key qk n W:Nat} {f:Nat->Nat} {q:C} {rows rows':LP} {j:Nat} (h1:j<n) (h2:ZaL rows') (h3:wt rows'<=W+40000*f (j+1)):
  RdN (stQ qk key q) (prS n W f) (fun b=>n-b.2) (rows,j) [(0,.a (.one (.tip 1 rows'))),(qk,.a (.one q)),(key,.a (.one (.p (.i ((j:Int)+1))))),o9]:=
 ⟨(rows',j+1),rfl,⟨h2,h3,h1⟩,dO⟩
def ZiS {x:Int}:[[P.int .i64 x]]=ZaX [x]:=rfl
def Zc2 (H:Has S) {op n' k m a:Int} {s s2:LN} {args ts rows:LP} {l:List Nd} (hg:Nd.goods l) (hll:(Nd.encs l).length<=100000) (hw:wt rows+40000*osz [8] l+10000<=2000000000) (hr:ZaL rows)
 (hQ:ZfX (wt rows+40000*osz [8] l+10) Q):Gives S ZeY [.one (.tip 1 rows),aN op s n' k s2 m args ts (Nd.encs l) a] [] Q:=by
 have hlen:=Zav (a:=rows);obtain ⟨w,hw0⟩: ∃w,w=wt rows:=⟨_,rfl⟩
 refine .code H.ZrZ rfl ?_;simp(disch:=omega)[ZhX];rw [ZiS];refine Zse H (mm:=osz [8] l) Zo Zd hg rfl (Yc _) Zo fun q hq=>?_;obtain ⟨f,f0,f1,f2⟩:=hq.parts;have g8:=hq.len;simp(disch:=omega);refine Lp.strq q.length w f wR wO (fun rows j r1 r2 r3=>?_);have r4:=Zav (a:=rows);have r5:=f1 j r3;by_cases hj:j<q.length
 ·obtain ⟨mj,p1,p2⟩:=f2 j hj;obtain ⟨op2,n2,k2',mm2,a2,s4,s5,args2,ts2,ls2,pe⟩:=p2.form;rw [pe] at p2;obtain ⟨_,_,_,e1,⟨e2,e3⟩,_⟩:=p2.inv;have p3:=f1 (j+1) hj;by_cases hj0:j=0
  ·subst hj0;simp(disch:=omega)[pe];refine Zjf H wO wR p2 (fun rows r6 r7=>?_);simp only [Zah,Zae,Zag,YO,qX] at r7;simp(disch:=omega);exact RdQ Zo wR wO
  ·simp(disch:=omega)[pe];refine Zjf H wO wR p2 (fun rows r6 r7=>?_);simp only [Zah,Zae,Zag,YO,qX] at r7;simp(disch:=omega);exact RdQ Zo wR wO
 ·have:j=q.length:=by omega
  subst this;by_cases hq0:q.length=0
  ·simp(disch:=omega);exact hQ _ wR wO
  ·simp(disch:=omega);exact hQ _ wR wO
def ZoY (H:Has S) {op n' k m a:Int} {s s2:LN} {args ts rows:LP} {l:List Nd} (hg:Nd.goods l) (hll:(Nd.encs l).length<=100000) (hw:wt rows+40000*osz [10] l+10000<=2000000000) (hr:ZaL rows)
 (hQ:ZfX (wt rows+40000*osz [10] l+10) Q):Gives S ZfV [.one (.tip 1 rows),aN op s n' k s2 m args ts (Nd.encs l) a] [] Q:=by
 have hlen:=Zav (a:=rows);obtain ⟨w,hw0⟩: ∃w,w=wt rows:=⟨_,rfl⟩
 refine .code H.Zu3 rfl ?_;simp(disch:=omega)[Zi3];rw [ZiS];refine Zse H (mm:=osz [10] l) Zo Zd hg rfl (Yc _) Zo fun q hq=>?_;obtain ⟨f,f0,f1,f2⟩:=hq.parts;have g8:=hq.len;simp(disch:=omega);refine Lp.strq q.length (w+2) f wR wO (fun rows j r1 r2 r3=>?_);have r4:=Zav (a:=rows);have r5:=f1 j r3;by_cases hj:j<q.length
 ·obtain ⟨mj,p1,p2⟩:=f2 j hj;obtain ⟨op2,n2,k2',mm2,a2,s4,s5,args2,ts2,ls2,pe⟩:=p2.form;rw [pe] at p2;obtain ⟨m1,m2,m3,e1,⟨e2,e3⟩,e4,_⟩:=p2.inv;have p3:=f1 (j+1) hj;have e5:1<=m1:=by obtain ⟨m0,g1,_⟩:=e4.inv;omega
  by_cases hj0:j=0
  ·subst hj0;simp(disch:=omega)[pe]
   repeat' (first
        | exact RdQ Zo wR wO
        | (refine Zbs H wO wR e4 (fun rows r6 r7=>?_);simp only [Zah,Zae,Zag,YO,qX] at r7;simp(disch:=omega))
        | (refine Zaf (fun hc=>?_) (fun hc=>?_)<;>simp(disch:=omega)[hc,pe]))
  ·simp(disch:=omega)[pe]
   repeat' (first
        | exact RdQ Zo wR wO
        | (refine Zbs H wO wR e4 (fun rows r6 r7=>?_);simp only [Zah,Zae,Zag,YO,qX] at r7;simp(disch:=omega))
        | (refine Zaf (fun hc=>?_) (fun hc=>?_)<;>simp(disch:=omega)[hc,pe]))
 ·have:j=q.length:=by omega
  subst this;simp(disch:=omega);exact hQ _ wR wO
def Zcx (H:Has S) {op n' k m a:Int} {s s2:LN} {args ts rows:LP} {l:List Nd} (hg:Nd.goods l) (hll:(Nd.encs l).length<=100000) (hw:wt rows+40000*osz [12] l+10000<=2000000000) (hr:ZaL rows)
 (hQ:ZfX (wt rows+40000*osz [12] l+10) Q):Gives S Zd1 [.one (.tip 1 rows),aN op s n' k s2 m args ts (Nd.encs l) a] [] Q:=by
 have hlen:=Zav (a:=rows);obtain ⟨w,hw0⟩: ∃w,w=wt rows:=⟨_,rfl⟩
 refine .code H.Zrk rfl ?_;simp(disch:=omega)[Zgz];rw [ZiS];refine Zse H (mm:=osz [12] l) Zo Zd hg rfl (Yc _) Zo fun q hq=>?_;obtain ⟨f,f0,f1,f2⟩:=hq.parts;have g8:=hq.len;simp(disch:=omega);refine Lp.strq q.length w f wR wO (fun rows j r1 r2 r3=>?_);have r4:=Zav (a:=rows);have r5:=f1 j r3;by_cases hj:j<q.length
 ·obtain ⟨mj,p1,p2⟩:=f2 j hj;obtain ⟨op2,n2,k2',mm2,a2,s4,s5,args2,ts2,ls2,pe⟩:=p2.form;rw [pe] at p2;obtain ⟨m1,m2,m3,e1,⟨e2,e3⟩,e4,e4',_⟩:=p2.inv;have p3:=f1 (j+1) hj;obtain ⟨k6,n6,s6,args6,m6,t1,t2,t3⟩: ∃(k6 n6:Int) (s6:LN) (args6:LP) (m6:Nat),m6<=m2/\(0<ts2.length->1<=m6/\IsTy m6 (rT k6 s6 n6 args6))/\(∀h:0<ts2.length,ts2[0]=[.i k6,.str s6,.i n6,.sl 4 args6]):=by
   obtain ⟨ff,_,ff1,ff2⟩:=e4'.parts;by_cases ht:0<ts2.length
   ·obtain ⟨m6,q1,q2⟩:=ff2 0 ht;have q3:ff 1<=m2:=ff1 1 ht;have q4:ff 1=ff 0+m6:=q1;obtain ⟨k6,n6,s6,args6,qe⟩:=q2.form;rw [qe] at q2;refine ⟨k6,n6,s6,args6,m6,by omega,fun _=>⟨?_,q2⟩,fun _=>qe⟩;obtain ⟨m0,g1,_⟩:=q2.inv;omega
   ·exact ⟨0,0,[],[],0,Yd _,fun h=>absurd h ht,fun h=>absurd h ht⟩
  have e5:1<=m1:=by obtain ⟨m0,g1,_⟩:=e4.inv;omega
  by_cases hj0:j=0
  ·subst hj0;simp(disch:=omega)[pe]
   repeat' (first
        | exact RdQ Zo wR wO
        | (refine Zbs H wO wR e4 (fun rows r6 r7=>?_);have r9:=Zav (a:=rows);(try simp only [wts] at r7);simp(disch:=omega)[pe])
        | (refine Zbs H (mm:=m6) wO wR (t2 Za).2 (fun rows r6 r7=>?_);have r9:=Zav (a:=rows);(try simp only [wts] at r7);simp(disch:=omega)[pe])
        | (refine Zaf (fun hc=>?_) (fun hc=>?_)<;>simp(disch:=omega)[hc,pe]<;>(try simp only [decide_eq_true_eq,decide_eq_false_iff_not,Int.natCast_pos] at hc)<;>(try (have t4:=t3 hc;have t5:=t2 hc;simp(disch:=omega)[pe,t4]))))
  ·simp(disch:=omega)[pe]
   repeat' (first
        | exact RdQ Zo wR wO
        | (refine Zbs H wO wR e4 (fun rows r6 r7=>?_);have r9:=Zav (a:=rows);(try simp only [wts] at r7);simp(disch:=omega)[pe])
        | (refine Zbs H (mm:=m6) wO wR (t2 Za).2 (fun rows r6 r7=>?_);have r9:=Zav (a:=rows);(try simp only [wts] at r7);simp(disch:=omega)[pe])
        | (refine Zaf (fun hc=>?_) (fun hc=>?_)<;>simp(disch:=omega)[hc,pe]<;>(try simp only [decide_eq_true_eq,decide_eq_false_iff_not,Int.natCast_pos] at hc)<;>(try (have t4:=t3 hc;have t5:=t2 hc;simp(disch:=omega)[pe,t4]))))
 ·have:j=q.length:=by omega
  subst this;simp(disch:=omega);exact hQ _ wR wO
end Go.Am.Fe
end
