/- Part. -/
import Derived.Test.YtmofclmogldnjaaGreatDoorCao
set_option maxRecDepth 999999
set_option maxHeartbeats 0
set_option linter.all false
section
namespace Go.Am.Fe
variable {S:SF} {Q:QF}
attribute [local simp] ZbO if_pos if_neg decide_eq_true decide_eq_false Yi Yj ZgF
def Zli (H:Has S) {l:LP} (hl:RowsOf ReR l) (hQ:Q [.one (.l 10 l)] []):Gives S Zgh [.one (.l 10 l)] [] Q:=by
 have g5:=hl.len;refine .code H.Zty rfl ?_;simp(disch:=omega)[ZhZ];refine Lp.rule (fun (j:Nat)=>[(0,.a (.one (.l 10 l))),(3,.a (.one (.tip 10 (l.take j)))),(4,.a (pi j)),o9]) (fun j=>j<=l.length) (fun j=>l.length-j) (a₀:=0) Zs (Yd _) ?_;intro j k1;by_cases hj:j<l.length
 ·obtain ⟨m1,m2,o,s,k1',n1,k2,n2,s1,s2,a1,a2,e,e1,e2,e3⟩:=hl.get hj;simp(disch:=omega)[e];refine Zb3 H e2 ?_;simp(disch:=omega)[e];refine Zb3 H e3 ?_;simp(disch:=omega)[e];exact RdN.mk (j+1) (by rw [Ym,Ya hj,e];rfl) hj Zo
 ·have e:l.take j=l:=Yg Zo;simp(disch:=omega)[e];exact hQ
def ZgN (H:Has S) {ty pr:List LN} {ki ar:List Int} {mo hi:List Bool} (hW:Nm ty ki ar mo pr hi) {gs:List LN} {ms:Nat} {ks ns:Int} {ss:LN} {as:LP} (hgs:Sns gs) (hself:FTy ms (rT ks ss ns as)) {mm:Nat} {l:LP} (hl:FNds mm l) (ho: ∀(j:Nat) (hj:j<l.length),∃r,l[j]= .i 12::r) (hQ:(∀(rs:LP) (c x:Int),RowsOf ReR rs->rs.length<=l.length->Q [.one (.l 10 rs),.agg [.i c,.i x]] [])):Gives S Zbi [aW ty ki ar mo pr hi,.one (.l 10 l),.agg [.l 1 (strs gs),.i ks,.s ss,.i ns,.l 4 as]] [] Q:=by
 have g5:=hl.len;have w1:=hW.t.1;have w2:=hW.p.1;have w3:=hW.k;have w4:=hW.a;have w5:=hW.m;have w6:=hW.h;refine .code H.ZhR rfl ?_;simp(disch:=omega)[Zcn];refine Lp.rule (fun (b:LP×Nat)=>[(1,.a (.one (.l 10 l))),fR 3,fR 5,fR 7,(8,.a (.one (.tip 10 b.1))),(9,.a (pi b.2)),o9,(10003,.a (aW ty ki ar mo pr hi)),(10005,.a (.agg [.l 1 (strs gs),.i ks,.s ss,.i ns,.l 4 as])),(10007,.a (a00))])
  (fun b=>b.2<=l.length/\b.1.length<=b.2/\RowsOf ReR b.1) (fun b=>l.length-b.2) (a₀:=([],0)) Zs ⟨Yd _,Yc _,RowsOf.nil⟩ ?_
 rintro ⟨rs,j⟩ ⟨k0,k1,k2⟩;dsimp only at k0 k1 k2;by_cases hj:j<l.length
 ·obtain ⟨m',q1,q2⟩:=hl.get hj;obtain ⟨r0,hr0⟩:=ho j hj;obtain ⟨o2,n2,k2',m2',z2,s2,u2,a2,t2,l2,e⟩:=q2.form;rw [e] at q2;obtain rfl:o2=12:=by rw [hr0] at e;simp only [Yf,P.int.injEq,true_and] at e;exact e.1.symm
  obtain ⟨_,_,_,_,e2,e3,e4,_,_,e5⟩:=q2.inv;by_cases h2:n2=2
  ·subst h2;have e6:=e5 rfl rfl;obtain ⟨m8,q3,q4⟩:=e4.get (j:=0) e6;obtain ⟨k8,n8,s8,a8,e8⟩:=q4.form;rw [e8] at q4;simp(disch:=omega)[e,e8]
   repeat' (first
        | exact hQ _ _ _ (by first|exact RowsOf.nil|assumption) (by first|assumption|(simp)|omega)
        | (refine ZaH H (fun x=>?_);simp(disch:=omega))
        | exact RdN.mk (_,j+1) rfl ⟨hj,by simp;omega,k2.snoc ⟨_,_,_,_,_,_,_,_,_,_,_,_,rfl,e2,Za,(by first|assumption|exact FTy.zero)⟩ Zo⟩ dO
        | (refine Zc9 H hW hgs hself e3 (fun m9 k9 n9 e9 s9 a9 h9=>?_);simp(disch:=omega)[e,e8])
        | (refine Zc9 H hW hgs hself q4 (fun m7 k7 n7 e7 s7 a7 h7=>?_);simp(disch:=omega)[e,e8])
        | (refine ZpS H h9 (fun x=>?_);cases x<;>simp(disch:=omega)[e,e8])
        | (refine ZpS H h7 (fun x=>?_);cases x<;>simp(disch:=omega)[e,e8])
        | (refine ZpI H h7 (fun x=>?_);cases x<;>simp(disch:=omega)[e,e8])
        | (refine Zeh H Zo (fun x hx hx2=>?_) (fun x hx hx2=>?_)<;>(try subst hx)<;>simp(disch:=omega)[Zbh,ZaZ,ZaM,e,e8])
        | (refine Tcs (fun hc=>?_) (fun hc=>?_)<;>simp(disch:=omega)[hc,e,e8]<;>try simp only [bz] at hc)
        | (exfalso;omega))
  ·simp(disch:=omega)[e,h2]
   repeat' (first
        | exact hQ _ _ _ (by first|exact RowsOf.nil|assumption) (by first|assumption|(simp)|omega)
        | (refine ZaH H (fun x=>?_);simp(disch:=omega))
        | exact RdN.mk (_,j+1) rfl ⟨hj,by simp;omega,k2.snoc ⟨_,_,_,_,_,_,_,_,_,_,_,_,rfl,e2,Za,(by first|assumption|exact FTy.zero)⟩ Zo⟩ dO
        | (refine Zc9 H hW hgs hself e3 (fun m9 k9 n9 e9 s9 a9 h9=>?_);simp(disch:=omega)[e,h2])
        | (refine ZpS H h9 (fun x=>?_);cases x<;>simp(disch:=omega)[e,h2])
        | (refine Zeh H Zo (fun x hx hx2=>?_) (fun x hx hx2=>?_)<;>(try subst hx)<;>simp(disch:=omega)[Zbh,ZaZ,ZaM,e,h2])
        | (refine Tcs (fun hc=>?_) (fun hc=>?_)<;>simp(disch:=omega)[hc,e,h2]<;>try simp only [bz] at hc)
        | (exfalso;omega))
 ·simp(disch:=omega);exact hQ _ _ _ k2 Zo
def ZCt (S:SF) (n:Nat):Prop:= ∀(m1 m2:Nat) (k1 n1 k2 n2:Int) (s1 s2:LN) (a1 a2:LP) (Q:QF),m1<n->FTy m1 (rT k1 s1 n1 a1)->FTy m2 (rT k2 s2 n2 a2)->(∀b:Bool,Q [pb b] [])->
 Gives S ZbG [aT k1 s1 n1 a1,aT k2 s2 n2 a2] [] Q
def ZrK (H:Has S) {n:Nat} (ih:ZCt S n) {m1 m2:Nat} {a1 a2:LP} (hm:m1<n) (h1:FTys m1 a1) (h2:FTys m2 a2) (hQ: ∀b:Bool,Q [pb b] []):
  Gives S ZdD [.one (.l 4 a1),.one (.l 4 a2)] [] Q:=by
 have g1:=h1.len;have g2:=h2.len;refine .code H.ZqJ rfl ?_;simp(disch:=omega)[Zhc];by_cases hl:a1.length=a2.length
 ·simp(disch:=omega)[hl];refine Lp.rule (fun (j:Nat)=>[(0,.a (.one (.l 4 a1))),(1,.a (.one (.l 4 a2))),(5,.a (pi j)),o9]) (fun j=>j<=a1.length) (fun j=>a1.length-j) (a₀:=0) Zs (Yd _) ?_;intro j k1;by_cases hj:j<a1.length
  ·obtain ⟨m3,q1,q2⟩:=h1.get hj;obtain ⟨k3,n3,s3,a3,e3⟩:=q2.form;obtain ⟨m4,q3,q4⟩:=h2.get (j:=j) Zo;obtain ⟨k4,n4,s4,a4,e4⟩:=q4.form;rw [e3] at q2;rw [e4] at q4;simp(disch:=omega)[e3,e4];refine ih m3 m4 _ _ _ _ _ _ _ _ _ Zo q2 q4 fun b=>?_;cases b
   ·simp(disch:=omega);exact hQ _
   ·simp(disch:=omega);exact RdN.mk (j+1) rfl hj Zo
  ·simp(disch:=omega);exact hQ _
 ·simp(disch:=omega)[hl];exact hQ _
def Zvn (H:Has S): ∀n,ZCt S n
 | 0=>fun _ _ _ _ _ _ _ _ _ _ _ h=>absurd h (YI _)
 | n+1=>by
   intro m1 m2 k1 n1 k2 n2 s1 s2 a1 a2 Q hm h1 h2 hQ;have ih:=Zvn H n;obtain ⟨m3,g1,_,g3,_⟩:=h1.inv;obtain ⟨m4,g4,_,g6,_⟩:=h2.inv;refine .code H.Ztw rfl ?_;simp(disch:=omega)[Ziv]
   repeat' (first
     | exact hQ _
     | (refine ZrK H ih Zo g3 g6 (fun b=>?_);simp(disch:=omega))
     | (refine Tcs (fun hc=>?_) (fun hc=>?_)<;>simp(disch:=omega)[hc]<;>try simp only [bz] at hc)
     | (exfalso;omega))
def ZeJ (H:Has S) {m1 m2:Nat} {k1 n1:Int} {s1:LN} {a1:LP} {k2 n2:Int} {s2:LN} {a2:LP} (h1:FTy m1 (rT k1 s1 n1 a1)) (h2:FTy m2 (rT k2 s2 n2 a2)) (hQ: ∀b:Bool,Q [pb b] []):
 Gives S ZbG [aT k1 s1 n1 a1,aT k2 s2 n2 a2] [] Q:=Zvn H (m1+1) m1 m2 _ _ _ _ _ _ _ _ _ (Yz _) h1 h2 hQ
def ZjW (H:Has S) {ms:Nat} {ks ns:Int} {ss:LN} {as:LP} (hself:FTy ms (rT ks ss ns as)) {sp:LN} {pa pm:LP} (hpa:RowsOf AsR pa) {cs:LN} {kc nc:Int} {sc:LN} {ac cq ct:LP} {cg:List LN} {nf mc:Nat} (hct:FTys mc ct) {th:List Bool} (hl1:ct.length=pa.length) (hl2:th.length=pa.length): ∀(nn mm:Nat) (k n:Int) (s:LN) (a:LP) (Q:QF),mm<nn->FTy mm (rT k s n a)->(∀(m':Nat) (k' n':Int) (s':LN) (a':LP) (b:Bool),FTy m' (rT k' s' n' a')->Q [aT k' s' n' a',pb b] [])->Gives S Zco [aT k s n a,aT ks ss ns as,.agg [.s sp,.l 2 pa,.l 10 pm],.agg [.s cs,.i kc,.s sc,.i nc,.l 4 ac,.l 1 (strs cg),.l 10 cq,.l 4 ct,.hdr nf],.one (.l 1 (Zay th))] [] Q
 | 0=>fun _ _ _ _ _ _ h=>absurd h (YI _)
 | nn+1=>by
   intro mm k n s a Q hm ht hQ;have ih:=ZjW H hself hpa hct hl1 hl2 (sp:=sp) (pm:=pm) (cs:=cs) (kc:=kc) (nc:=nc) (sc:=sc) (ac:=ac) (cq:=cq) (cg:=cg) (nf:=nf) nn;obtain ⟨m1,g1,g2,g3,g4⟩:=ht.inv;have ht2:=ht;have g5:=g3.len;have g6:=hpa.len;refine .code H.Ztl rfl ?_;simp(disch:=omega)[ZhG];by_cases h8:k=8
   · subst h8;have g7:=g4 Zd;obtain ⟨m9,_,q9⟩:=g3.get (j:=0) g7;obtain ⟨k9,n9,s9,a9,e9⟩:=q9.form;rw [e9] at q9
     repeat' (first
       | exact hQ _ _ _ _ _ _ FTy.zero
       | exact hQ _ _ _ _ _ _ hself
       | exact hQ _ _ _ _ _ _ Za
       | exact hQ _ _ _ _ _ _ (FTy.mk g2 k2 (fun h=>by have:=g4 h;omega))
       | (refine Zk1 H ?_;simp(disch:=omega)[e9])
       | (refine Zb3 H hself ?_;simp(disch:=omega))
       | (refine Zb3 H q8 ?_;simp(disch:=omega))
       | (refine ZeJ H ht2 (FTy.mk (s:=[83,101,108,102]) ⟨by decide,by simp [Byt]⟩ FTys.nil Zo) (fun x=>?_);cases x<;>simp(disch:=omega)[e9])
       | (refine ZeJ H q9 (FTy.mk (s:=[83,101,108,102]) ⟨by decide,by simp [Byt]⟩ FTys.nil Zo) (fun x=>?_);cases x<;>simp(disch:=omega)[e9])
       | (refine ih _ _ _ _ _ _ Zo q2 (fun m4 k4 n4 s4 a4 b4 h4=>?_);cases b4<;>simp(disch:=omega))
       | exact RdN.mk (j+1) rfl hj Zo
       | exact RdN.mk (_,j+1) rfl ⟨hj,by simp;omega,_,k2.snoc h4 Zo⟩ dO
       | (refine Lp.rule (fun (j:Nat)=>[(4,.a (.one (.l 1 (Zay th)))),fR 5,fR 7,fR 8,fR 10,(12,.a (pi j)),o9,(10005,.a (aT 8 s n a)),(10007,.a (.agg [.s sp,.l 2 pa,.l 10 pm])),(10008,.a (.agg [.s cs,.i kc,.s sc,.i nc,.l 4 ac,.l 1 (strs cg),.l 10 cq,.l 4 ct,.hdr nf])),(10010,.a (.agg [.i 0,.s [],.i 0,.tip 4 []]))]) (fun j=>j<=pa.length) (fun j=>pa.length-j) (a₀:=0) rfl (Yd _) ?_
          intro j k1;by_cases hj:j<pa.length;rotate_left;simp(disch:=omega);rotate_left;obtain ⟨sa,bs,ea,_,_⟩:=hpa.get hj;have et:=ZaM (l:=th) (j:=j) Zo;obtain ⟨m8,_,q8⟩:=hct.get (j:=j) Zo;obtain ⟨k8,n8,s8,a8,e8⟩:=q8.form;rw [e8] at q8;simp(disch:=omega)[ea,et,e8])
       | (refine Lp.rule (fun (b:LP×Nat)=>[(4,.a (.one (.l 1 (Zay th)))),fR 5,fR 6,fR 7,fR 8,fR 10,fR 13,(14,.a (pi b.2)),o9,(10005,.a (aT 8 s n a)),(10006,.a (aT ks ss ns as)),(10007,.a (.agg [.s sp,.l 2 pa,.l 10 pm])),(10008,.a (.agg [.s cs,.i kc,.s sc,.i nc,.l 4 ac,.l 1 (strs cg),.l 10 cq,.l 4 ct,.hdr nf])),(10010,.a (.agg [.i 0,.s [],.i 0,.tip 4 []])),(10013,.a (.agg [.i 8,.s s,.i n,.tip 4 b.1]))]) (fun b=>b.2<=a.length/\b.1.length=b.2/\ ∃m,FTys m b.1) (fun b=>a.length-b.2) (a₀:=([],0)) rfl ⟨Yd _,rfl,_,FTys.nil⟩ ?_
          rintro ⟨r,j⟩ ⟨k0,k1,mr,k2⟩;dsimp only at k0 k1 k2;by_cases hj:j<a.length;rotate_left;simp(disch:=omega);rotate_left;obtain ⟨m6,q1,q2⟩:=g3.get hj;obtain ⟨k6,n6,s6,a6,e6⟩:=q2.form;rw [e6] at q2;simp(disch:=omega)[e6])
       | (refine Tcs (fun hc=>?_) (fun hc=>?_)<;>simp(disch:=omega)[hc,e9,ea,et,e8]<;>try simp only [bz] at hc)
       | (refine Tcs (fun hc=>?_) (fun hc=>?_)<;>simp(disch:=omega)[hc,e9]<;>try simp only [bz] at hc)
       | (exfalso;omega))
   · repeat' (first
       | exact hQ _ _ _ _ _ _ FTy.zero
       | exact hQ _ _ _ _ _ _ hself
       | exact hQ _ _ _ _ _ _ Za
       | exact hQ _ _ _ _ _ _ (FTy.mk g2 k2 (fun h=>by have:=g4 h;omega))
       | (refine Zk1 H ?_;simp(disch:=omega)[h8])
       | (refine Zb3 H hself ?_;simp(disch:=omega))
       | (refine ZeJ H ht2 (FTy.mk (s:=[83,101,108,102]) ⟨by decide,by simp [Byt]⟩ FTys.nil Zo) (fun x=>?_);cases x<;>simp(disch:=omega)[h8])
       | (refine ih _ _ _ _ _ _ Zo q2 (fun m4 k4 n4 s4 a4 b4 h4=>?_);cases b4<;>simp(disch:=omega))
       | exact RdN.mk (_,j+1) rfl ⟨hj,by simp;omega,_,k2.snoc h4 Zo⟩ dO
       | (refine Lp.rule (fun (b:LP×Nat)=>[(4,.a (.one (.l 1 (Zay th)))),fR 5,fR 6,fR 7,fR 8,fR 10,fR 13,(14,.a (pi b.2)),o9,(10005,.a (aT k s n a)),(10006,.a (aT ks ss ns as)),(10007,.a (.agg [.s sp,.l 2 pa,.l 10 pm])),(10008,.a (.agg [.s cs,.i kc,.s sc,.i nc,.l 4 ac,.l 1 (strs cg),.l 10 cq,.l 4 ct,.hdr nf])),(10010,.a (.agg [.i 0,.s [],.i 0,.tip 4 []])),(10013,.a (.agg [.i k,.s s,.i n,.tip 4 b.1]))]) (fun b=>b.2<=a.length/\b.1.length=b.2/\ ∃m,FTys m b.1) (fun b=>a.length-b.2) (a₀:=([],0)) rfl ⟨Yd _,rfl,_,FTys.nil⟩ ?_
          rintro ⟨r,j⟩ ⟨k0,k1,mr,k2⟩;dsimp only at k0 k1 k2;by_cases hj:j<a.length;rotate_left;simp(disch:=omega);rotate_left;obtain ⟨m6,q1,q2⟩:=g3.get hj;obtain ⟨k6,n6,s6,a6,e6⟩:=q2.form;rw [e6] at q2;simp(disch:=omega)[e6])
       | (refine Tcs (fun hc=>?_) (fun hc=>?_)<;>simp(disch:=omega)[hc,h8]<;>try simp only [bz] at hc)
       | (exfalso;omega))
def Zjs (H:Has S) {ms:Nat} {ks ns:Int} {ss:LN} {as:LP} (hself:FTy ms (rT ks ss ns as)) {sp:LN} {pa pm:LP} (hpa:RowsOf AsR pa) {cs:LN} {kc nc:Int} {sc:LN} {ac cq ct:LP} {cg:List LN} {nf mc:Nat} (hct:FTys mc ct) {th:List Bool} (hl1:ct.length=pa.length) (hl2:th.length=pa.length) {mm:Nat} {k n:Int} {s:LN} {a:LP} (ht:FTy mm (rT k s n a)) (hQ:(∀(m':Nat) (k' n':Int) (s':LN) (a':LP) (b:Bool),FTy m' (rT k' s' n' a')->Q [aT k' s' n' a',pb b] [])):Gives S Zco [aT k s n a,aT ks ss ns as,.agg [.s sp,.l 2 pa,.l 10 pm],.agg [.s cs,.i kc,.s sc,.i nc,.l 4 ac,.l 1 (strs cg),.l 10 cq,.l 4 ct,.hdr nf],.one (.l 1 (Zay th))] [] Q:=
 ZjW H hself hpa hct hl1 hl2 (mm+1) mm _ _ _ _ _ (Yz _) ht hQ
def ZwG {a b:LN}:Byt (a++b)=(Byt a/\Byt b):=by
 refine propext ⟨fun h=>⟨fun c hc=>h c (List.mem_append_left _ hc),fun c hc=>h c (List.mem_append_right _ hc)⟩,fun h c hc=>?_⟩;rcases List.mem_append.mp hc with hc|hc
 ·exact h.1 c hc
 ·exact h.2 c hc
def ZB4 {c:Nat} {a:LN}:Byt (c::a)=(c<256/\Byt a):=by simp [Byt]
def Zzv {x:Int} (h1:0<=x) (h2:x<256):IntKind.u8.wrap x=x:=by
 unfold IntKind.wrap IntKind.bits IntKind.signed;simp;omega
def Zje {x:Int} (h1:0<=x) (h2:x<256):ZhC [[.int .u8 x]]=some [x.toNat]:=by simp [ZhC,h1,h2]
def Zlf (H:Has S): ∀(nn n:Nat) (Q:QF),n<nn->n<=1000000000->(∀s:LN,s.length<=n+1->Byt s->Q [ps s] [])->Gives S ZgG [pi n] [] Q
 | 0=>fun _ _ h=>absurd h (YI _)
 | nn+1=>by
   intro n Q hn hb hQ;have e1:Int.tdiv (n:Int) 10=((n / 10:Nat):Int):=rfl;have e2:Int.tmod (n:Int) 10=((n % 10:Nat):Int):=rfl;have e3:n % 10<10:=Nat.mod_lt _ Zd;refine .code H.Zw6 rfl ?_;by_cases h10:n<10
   · simp(disch:=omega)[ZiI,Zzv,Zje];exact hQ _ Zs (by simp [Byt];omega)
   · simp(disch:=omega)[ZiI,Zzv,Zje,e1,e2];refine Zlf H nn (n / 10) _ Zo Zo fun s h1 h2=>?_;simp(disch:=omega)[Zzv,Zje,e1,e2];exact hQ _ Ze (by rw [ZwG];exact ⟨h2,by simp [Byt];omega⟩)
def Zsj (H:Has S) {mm k:Nat} {l:LP} (hl:FNds mm l) (hk:k<l.length) (hkk:k<=50) (hQ: ∀s:LN,Sx s->Q [ps s] []):Gives S Zhk [.one (.l 10 l),pi k] [] Q:=by
 have g:=hl.len;obtain ⟨m1,_,q1⟩:=hl.get hk;obtain ⟨o,n,k2,m2,z,s,u,a,t,l2,e⟩:=q1.form;rw [e] at q1;obtain ⟨_,_,_,_,⟨e1,e2⟩,_⟩:=q1.inv;refine .code H.Zu5 rfl ?_;simp(disch:=omega)[Zjy];refine Lp.rule (fun (b:Nat×Nat)=>[(0,.a (.one (.l 10 l))),(1,.a (pi k)),(5,.a (pi b.1)),(6,.a (pi b.2)),o9]) (fun b=>b.2<=k/\b.1<=b.2) (fun b=>k-b.2) (a₀:=(0,0)) rfl ⟨Yd _,Yc _⟩ ?_;rintro ⟨c,j⟩ ⟨k1,k3⟩;dsimp only at k1 k3;by_cases hj:j<k
 ·obtain ⟨m',_,q2⟩:=hl.get (j:=j) Zo;obtain ⟨o',n',k2',m2',z',s',u',a',t',l2',e'⟩:=q2.form;simp(disch:=omega)[e,e']
  repeat' (first
      | exact RdN.mk (c+1,j+1) rfl ⟨hj,dO⟩ dO
      | exact RdN.mk (c,j+1) rfl ⟨hj,dO⟩ dO
      | (refine Tcs (fun hc=>?_) (fun hc=>?_)<;>simp(disch:=omega)[hc,e,e']<;>try simp only [bz] at hc)
      | (exfalso;omega))
 ·simp(disch:=omega)[e];refine Zlf H (c+1) c _ (Yz _) Zo fun s3 h1 h2=>?_;simp(disch:=omega)[e];exact hQ _ ⟨by simp;omega,by rw [ZwG];exact ⟨e2,by rw [ZB4];exact ⟨by omega,h2⟩⟩⟩
def Zsw (H:Has S) {ms:Nat} {ks ns:Int} {ss:LN} {as:LP} (hself:FTy ms (rT ks ss ns as)) {sp:LN} {pa pm:LP} (hpa:RowsOf AsR pa) {cs:LN} {kc nc:Int} {sc:LN} {ac cq ct:LP} {cg:List LN} {nf mc:Nat} (hct:FTys mc ct) {th:List Bool} (hl1:ct.length=pa.length) (hl2:th.length=pa.length) {fp mp:LP} {mr mt:Nat} {kr nr' kt nt:Int} {sr st:LN} {ar' at':LP} {mq mu:Nat} {kq nq ku nu:Int} {sq su:LN} {aq au:LP} {sm:LN} (hfp:RowsOf PaR fp) (hr:FTy mr (rT kr sr nr' ar')) (ht:FTy mt (rT kt st nt at')) (hmp:RowsOf PaR mp) (hq:FTy mq (rT kq sq nq aq)) (hu:FTy mu (rT ku su nu au)) (hQ: ∀x:Bool,Q [pb x] []):
  Gives S Zkx [.agg [.l 6 fp,.i kr,.s sr,.i nr',.l 4 ar',.i kt,.s st,.i nt,.l 4 at'],.agg [.s sm,.l 6 mp,.i kq,.s sq,.i nq,.l 4 aq,.i ku,.s su,.i nu,.l 4 au],aT ks ss ns as,.agg [.s sp,.l 2 pa,.l 10 pm],.agg [.s cs,.i kc,.s sc,.i nc,.l 4 ac,.l 1 (strs cg),.l 10 cq,.l 4 ct,.hdr nf],.one (.l 1 (Zay th))] [] Q:=by
 have g1:=hfp.len;have g2:=hmp.len;refine .code H.Zx8 rfl ?_;simp(disch:=omega)[Znk];by_cases hl:fp.length=mp.length
 ·simp(disch:=omega)[hl];refine Lp.rule (fun (j:Nat)=>[(5,.a (.one (.l 1 (Zay th)))),fR 6,fR 7,fR 8,fR 9,fR 10,(13,.a (pi j)),o9,(10006,.a (.agg [.l 6 fp,.i kr,.s sr,.i nr',.l 4 ar',.i kt,.s st,.i nt,.l 4 at'])),(10007,.a (.agg [.s sm,.l 6 mp,.i kq,.s sq,.i nq,.l 4 aq,.i ku,.s su,.i nu,.l 4 au])),(10008,.a (aT ks ss ns as)),(10009,.a (.agg [.s sp,.l 2 pa,.l 10 pm])),(10010,.a (.agg [.s cs,.i kc,.s sc,.i nc,.l 4 ac,.l 1 (strs cg),.l 10 cq,.l 4 ct,.hdr nf]))]) (fun j=>j<=fp.length) (fun j=>fp.length-j) (a₀:=0) rfl (Yd _) ?_;intro j k1;by_cases hj:j<fp.length
  ·obtain ⟨m1,s1,o1,k1',n1,u1,a1,e1,f1,f2⟩:=hfp.get hj;obtain ⟨m2,s2,o2,k2',n2,u2,a2,e2,f3,f4⟩:=hmp.get (j:=j) Zo;simp(disch:=omega)[e1,e2]
   repeat' (first
        | exact hQ _
        | exact RdN.mk (j+1) rfl hj Zo
        | (refine Zjs H hself hpa hct hl1 hl2 f4 (fun m4 k4 n4 s4 a4 b4 h4=>?_);cases b4<;>simp(disch:=omega)[e1,e2])
        | (refine ZeJ H f2 h4 (fun x=>?_);cases x<;>simp(disch:=omega)[e1,e2])
        | (refine Tcs (fun hc=>?_) (fun hc=>?_)<;>simp(disch:=omega)[hc,e1,e2]<;>try simp only [bz] at hc)
        | (exfalso;omega))
  ·simp(disch:=omega)
   repeat' (first
        | exact hQ _
        | (refine ZeJ H hr h4 (fun x=>?_);cases x<;>simp(disch:=omega)[])
        | (refine ZeJ H ht h4 (fun x=>?_);cases x<;>simp(disch:=omega)[])
        | (refine Zjs H hself hpa hct hl1 hl2 hq (fun m4 k4 n4 s4 a4 b4 h4=>?_);cases b4<;>simp(disch:=omega)[])
        | (refine Zjs H hself hpa hct hl1 hl2 hu (fun m4 k4 n4 s4 a4 b4 h4=>?_);cases b4<;>simp(disch:=omega)[])
        | (refine Tcs (fun hc=>?_) (fun hc=>?_)<;>simp(disch:=omega)[hc]<;>try simp only [bz] at hc)
        | (exfalso;omega))
 ·simp(disch:=omega)[hl];exact hQ _
def Zpj (H:Has S) {ty pr:List LN} {ki ar:List Int} {mo hi:List Bool} (hW:Nm ty ki ar mo pr hi) {mm:Nat} {o n k m z:Int} {s u:LN} {a t l:LP} (ht:FNd mm (rN o s n k u m a t l z)) (hQ:(∀(s':LN) (as ms:LP) (c x:Int),Sn s'->RowsOf AsR as->RowsOf MeR ms->Q [.agg [.s s',.l 2 as,.l 10 ms],.agg [.i c,.i x]] [])):Gives S ZcB [aW ty ki ar mo pr hi,aN o s n k u m a t l z] [] Q:=by
 obtain ⟨m1,m2,m3,g1,g2,g3,g4,g5,_⟩:=ht.inv;have ht2:=ht;have w1:=hW.t.1;have w2:=hW.p.1;have w3:=hW.k;have w4:=hW.a;have w5:=hW.m;have w6:=hW.h;refine .code H.Zk9 rfl ?_;simp(disch:=omega)[ZdH];refine Zfs H g5 fun q hq ho=>?_;have g6:=hq.len;simp(disch:=omega);refine Lp.rule (fun (b:LP×Nat)=>[fR 2,fR 3,fR 4,fR 5,fR 6,(7,.a (.one (.l 10 q))),(8,.a (pi b.2)),o9,(10002,.a (aW ty ki ar mo pr hi)),(10003,.a (aN o s n k u m a t l z)),(10004,.a (.agg [.s [],.tip 2 [],.tip 10 []])),(10005,.a (a00)),(10006,.a (.agg [.s s,.tip 2 b.1,.tip 10 []]))]) (fun b=>b.2<=q.length/\b.1.length<=b.2/\RowsOf AsR b.1) (fun b=>q.length-b.2) (a₀:=([],0)) rfl ⟨Yd _,Yc _,RowsOf.nil⟩ ?_;rintro ⟨as,j⟩ ⟨k0,k1,k2⟩;dsimp only at k0 k1 k2;by_cases hj:j<q.length
 ·obtain ⟨m',q1,q2⟩:=hq.get hj;obtain ⟨o2,n2,k2',m2',z2,s2,u2,a2,t2,l2,e⟩:=q2.form;rw [e] at q2;obtain ⟨_,_,_,_,f1,f2,f3,f4,f5,_⟩:=q2.inv;have f6:=f4.len;simp(disch:=omega)[e];refine ZeD H hq Zo fun x=>?_;cases x
  ·simp(disch:=omega)[e];refine Lp.rule (fun (b:List LN×Nat)=>[fR 2,fR 3,fR 4,fR 5,fR 6,(7,.a (.one (.l 10 q))),(8,.a (pi j)),fR 9,(10,.a (pi b.2)),o9,(10002,.a (aW ty ki ar mo pr hi)),(10003,.a (aN o s n k u m a t l z)),(10004,.a (.agg [.s [],.tip 2 [],.tip 10 []])),(10005,.a (a00)),(10006,.a (.agg [.s s,.tip 2 as,.tip 10 []])),(10009,.a (.agg [.s s2,.tip 1 (strs b.1)]))]) (fun b=>b.2<=l2.length/\b.1.length<=b.2/\Sns b.1) (fun b=>l2.length-b.2) (a₀:=([],0)) rfl ⟨Yd _,Yc _,Sns.nil⟩ ?_;rintro ⟨bs,i⟩ ⟨i0,i1,i2⟩;dsimp only at i0 i1 i2;by_cases hii:i<l2.length
   ·obtain ⟨m'x,q1x,q2x⟩:=f4.get hii;obtain ⟨o2x,n2x,k2'x,m2'x,z2x,s2x,u2x,a2x,t2x,l2x,ex⟩:=q2x.form;rw [ex] at q2x;obtain ⟨_,_,_,_,f1x,f2x,f3x,f4x,f5x,_⟩:=q2x.inv;simp(disch:=omega)[e,ex]
    repeat' (first
          | exact hQ _ _ _ _ _ (by first|exact Sn.nil|assumption) (by first|exact RowsOf.nil|assumption) (by first|exact RowsOf.nil|assumption)
          | (refine ZaH H (fun x=>?_);simp(disch:=omega))
          | exact RdN.mk (_,i+1) rfl ⟨hii,by simp;omega,i2.snoc f1x Zo⟩ dO
          | (refine Zeh H Zo (fun x hx hx2=>?_) (fun x hx hx2=>?_)<;>(try subst hx)<;>simp(disch:=omega)[e,ex,Zaz])
          | (refine Tcs (fun hc=>?_) (fun hc=>?_)<;>simp(disch:=omega)[hc,e,ex,Zaz]<;>try simp only [bz] at hc)
          | (exfalso;omega))
   ·simp(disch:=omega)[e];exact RdN.mk (_,j+1) rfl ⟨hj,by simp;omega,k2.snoc ⟨_,_,rfl,f1,i2⟩ Zo⟩ dO
  ·simp(disch:=omega)[e];refine ZaH H fun x=>?_;simp(disch:=omega);exact hQ _ _ _ _ _ (by first|exact Sn.nil|assumption) (by first|exact RowsOf.nil|assumption) (by first|exact RowsOf.nil|assumption)
 ·simp(disch:=omega);refine Zfs H g5 fun p hp hop=>?_;have g7:=hp.len;simp(disch:=omega);refine Lp.rule (fun (b:LP×Nat)=>[fR 2,fR 4,fR 5,fR 6,(12,.a (.one (.l 10 p))),(13,.a (pi b.2)),o9,(10002,.a (aW ty ki ar mo pr hi)),(10004,.a (.agg [.s [],.tip 2 [],.tip 10 []])),(10005,.a (a00)),(10006,.a (.agg [.s s,.tip 2 as,.tip 10 b.1]))]) (fun b=>b.2<=p.length/\b.1.length<=b.2/\RowsOf MeR b.1) (fun b=>p.length-b.2) (a₀:=([],0)) rfl ⟨Yd _,Yc _,RowsOf.nil⟩ ?_;rintro ⟨ms,j⟩ ⟨k3,k4,k5⟩;dsimp only at k3 k4 k5;by_cases hj:j<p.length
  ·obtain ⟨m',q1,q2⟩:=hp.get hj;obtain ⟨o2,n2,k2',m2',z2,s2,u2,a2,t2,l2,e⟩:=q2.form;rw [e] at q2;obtain ⟨_,_,_,_,f1,f2,f3,f4,f5,_⟩:=q2.inv;simp(disch:=omega)[e];refine ZeD H hp Zo fun x=>?_;cases x
   ·simp(disch:=omega)[e];refine Zk1 H ?_;simp(disch:=omega)[e];refine ZoA H hW (gs:=[]) Sns.nil (FTy.mk (s:=[83,101,108,102]) ⟨by decide,by simp [Byt]⟩ FTys.nil Zo) q2 fun ps m1 m2 k1 n1 k2 n2 s1 s2 a1 a2 c x b1 b2 b3 b4=>?_;simp(disch:=omega)[e];refine Zaf (fun hc=>?_) (fun hc=>?_)<;>simp(disch:=omega)[hc,e]<;>try simp only [bz] at hc
    ·exact hQ _ _ _ _ _ (by first|exact Sn.nil|assumption) (by first|exact RowsOf.nil|assumption) (by first|exact RowsOf.nil|assumption)
    ·refine Zv1 H f4 fun q3 hq3e hq3 ho3=>?_;have g8:=hq3.len;have g9:ps.length=q3.length:=by rw [hq3e];exact b2 hc
     simp(disch:=omega)[e];refine Lp.rule (fun (i:Nat)=>[fR 2,fR 4,fR 5,fR 6,(12,.a (.one (.l 10 p))),(13,.a (pi j)),fR 14,(16,.a (.one (.l 10 q3))),(17,.a (pi i)),o9,(10002,.a (aW ty ki ar mo pr hi)),(10004,.a (.agg [.s [],.tip 2 [],.tip 10 []])),(10005,.a (a00)),(10006,.a (.agg [.s s,.tip 2 as,.tip 10 ms])),(10014,.a (.agg [.l 6 ps,.i k1,.s s1,.i n1,.l 4 a1,.i k2,.s s2,.i n2,.l 4 a2]))]) (fun i=>i<=q3.length) (fun i=>q3.length-i) (a₀:=0) rfl (Yd _) ?_;intro i i1;by_cases hii:i<q3.length
     ·obtain ⟨m'x,q1x,q2x⟩:=hq3.get hii;obtain ⟨o2x,n2x,k2'x,m2'x,z2x,s2x,u2x,a2x,t2x,l2x,ex⟩:=q2x.form;rw [ex] at q2x;obtain ⟨_,_,_,_,f1x,f2x,f3x,f4x,f5x,_⟩:=q2x.inv;obtain ⟨m9,s9,o9,k9,n9,u9,a9,e9,h9,h10⟩:=b1.get (j:=i) Zo;simp(disch:=omega)[ex,e9]
      repeat' (first
              | exact hQ _ _ _ _ _ (by first|exact Sn.nil|assumption) (by first|exact RowsOf.nil|assumption) (by first|exact RowsOf.nil|assumption)
              | (refine ZaH H (fun x=>?_);simp(disch:=omega))
              | exact RdN.mk (i+1) rfl hii Zo
              | (refine Zk1 H ?_;simp(disch:=omega)[ex,e9])
              | (refine ZeJ H h10 (FTy.mk (s:=[83,101,108,102]) ⟨by decide,by simp [Byt]⟩ FTys.nil Zo) (fun x=>?_);cases x<;>simp(disch:=omega)[ex,e9])
              | (refine Tcs (fun hc=>?_) (fun hc=>?_)<;>simp(disch:=omega)[hc,ex,e9]<;>try simp only [bz] at hc)
              | (exfalso;omega))
     ·simp(disch:=omega)[e];exact RdN.mk (_,j+1) rfl ⟨hj,by simp;omega,k5.snoc ⟨_,_,_,_,_,_,_,_,_,_,_,_,rfl,f1,b1,b3,b4⟩ Zo⟩ dO
   ·simp(disch:=omega)[e];refine ZaH H fun x=>?_;simp(disch:=omega);exact hQ _ _ _ _ _ (by first|exact Sn.nil|assumption) (by first|exact RowsOf.nil|assumption) (by first|exact RowsOf.nil|assumption)
  ·simp(disch:=omega);exact hQ _ _ _ _ _ (by first|exact Sn.nil|assumption) (by first|exact RowsOf.nil|assumption) (by first|exact RowsOf.nil|assumption)
end Go.Am.Fe
end
section
namespace Go.Am.Fe
variable {S:SF} {Q:QF}
attribute [local simp] ZbO if_pos if_neg decide_eq_true decide_eq_false Yi Yj ZgF
def andJ (x y:Int):Int:=IntKind.i64.wrap ((BitVec.ofInt IntKind.i64.bits x &&& BitVec.ofInt IntKind.i64.bits y).toNat:Nat)
@[local simp] def ZDx {x y:Int}:ZfP .and .i64 x y=some (.i (andJ x y)):=rfl
def ZrL (H:Has S) {ty pr:List LN} {ki ar:List Int} {mo hi:List Bool} (hW:Nm ty ki ar mo pr hi) {mm:Nat} {o n k m z:Int} {s u:LN} {a t l:LP} (ht:FNd mm (rN o s n k u m a t l z)) (hQ:(∀(mm:Nat) (s8:LN) (kd:Int) (gs:List LN) (b1 b2:Bool) (fs cs:LP) (o' n' k' m' z':Int) (s' u':LN) (a' t' l':LP) (c x:Int),Sn s8->Sns gs->RowsOf FiR fs->RowsOf CaR cs->FNd mm (rN o' s' n' k' u' m' a' t' l' z')->(c=0->s8=s)->Q [.agg [.s s8,.i kd,.l 1 (strs gs),.p (.bool b1),.p (.bool b2),.l 6 fs,.l 3 cs,.i o',.s s',.i n',.i k',.s u',.i m',.l 4 a',.l 4 t',.l 10 l',.i z'],.agg [.i c,.i x]] [])):Gives S ZcP [aW ty ki ar mo pr hi,aN o s n k u m a t l z] [] Q:=by
 obtain ⟨m1,m2,m3,g1,g2,g3,g4,g5,_⟩:=ht.inv;have ht2:=ht;have w1:=hW.t.1;have w2:=hW.p.1;have w3:=hW.k;have w4:=hW.a;have w5:=hW.m;have w6:=hW.h;refine .code H.Zl5 rfl ?_;simp(disch:=omega)[Zea];refine Zsl H fun kd=>?_;simp(disch:=omega);generalize (!decide (andJ n 1=0))=b1;generalize (!decide (andJ n 2=0))=b2;refine Zfs H g5 fun q7 h7 ho7=>?_;simp(disch:=omega);refine Zfs H g5 fun q8 h8 ho8=>?_;simp(disch:=omega);refine Zfs H g5 fun q9 h9 ho9=>?_;simp(disch:=omega);refine Zfs H g5 fun q10 h10 ho10=>?_;have l7:=h7.len;have l8:=h8.len;have l9:=h9.len;have l10:=h10.len;simp(disch:=omega);refine Lp.rule (fun (b:List LN×Nat)=>[fR 2,fR 3,fR 4,fR 5,fR 6,(7,.a (.one (.l 10 q7))),(8,.a (.one (.l 10 q8))),(9,.a (.one (.l 10 q9))),(10,.a (.one (.l 10 q10))),(11,.a (pi b.2)),o9,(10002,.a (aW ty ki ar mo pr hi)),(10003,.a (aN o s n k u m a t l z)),(10004,.a (.agg [.s [],.i 0,.tip 1 [],.p (.bool false),.p (.bool false),.tip 6 [],.tip 3 [],.i 0,.s [],.i 0,.i 0,.s [],.i 0,.tip 4 [],.tip 4 [],.tip 10 [],.i 0])),(10005,.a (a00)),(10006,.a (.agg [.s s,.i kd,.tip 1 (strs b.1),.p (.bool b1),.p (.bool b2),.tip 6 [],.tip 3 [],.i 0,.s [],.i 0,.i 0,.s [],.i 0,.tip 4 [],.tip 4 [],.tip 10 [],.i 0]))]) (fun b=>b.2<=q7.length/\b.1.length<=b.2/\Sns b.1) (fun b=>q7.length-b.2) (a₀:=([],0)) rfl ⟨Yd _,Yc _,Sns.nil⟩ ?_;rintro ⟨gs,j⟩ ⟨k0,k1,hgs⟩;dsimp only at k0 k1 hgs;by_cases hj:j<q7.length
 · obtain ⟨m',q1,q2⟩:=h7.get hj;obtain ⟨o2,n2,k2',m2',z2,s2,u2,a2,t2,l2,e⟩:=q2.form;rw [e] at q2;obtain ⟨_,_,_,_,f1,f2,f3,f4,f5,_⟩:=q2.inv;simp(disch:=omega)[e]
   repeat' (first
     | exact hQ _ _ _ [] _ _ _ _ _ _ _ _ _ _ _ _ _ _ _ _ Sn.nil Sns.nil RowsOf.nil RowsOf.nil FNd.zero (by first|(intro h;exact absurd h Zd)|(intro h;exact absurd h hc)|(intro h;exact absurd h hc2)|(intro _;rfl))
     | (refine ZaH H (fun x=>?_);simp(disch:=omega))
     | exact RdN.mk (_,j+1) rfl ⟨hj,by simp;omega,hgs.snoc f1 Zo⟩ dO
     | (refine ZmE H hW h7 hj (fun x=>?_);cases x<;>simp(disch:=omega)[e,Zaz])
     | (refine Tcs (fun hc=>?_) (fun hc=>?_)<;>simp(disch:=omega)[hc,e,Zaz]<;>try simp only [bz] at hc)
     | (exfalso;omega))
 · have tl: ∀(S':Nat),True:=fun _=>trivial;simp(disch:=omega)
   repeat' (first
     | exact hQ _ _ _ [] _ _ _ _ _ _ _ _ _ _ _ _ _ _ _ _ Sn.nil Sns.nil RowsOf.nil RowsOf.nil FNd.zero (by first|(intro h;exact absurd h Zd)|(intro h;exact absurd h hc)|(intro h;exact absurd h hc2)|(intro _;rfl))
     | (refine ZaH H (fun x=>?_);simp(disch:=omega))
     | (refine Lp.rule (fun (b:LP×Nat)=>[fR 2,fR 4,fR 5,fR 6,(8,.a (.one (.l 10 q8))),(9,.a (.one (.l 10 q9))),(10,.a (.one (.l 10 q10))),fR 12,(13,.a (pi b.2)),o9,(10002,.a (aW ty ki ar mo pr hi)),(10004,.a (.agg [.s [],.i 0,.tip 1 [],.p (.bool false),.p (.bool false),.tip 6 [],.tip 3 [],.i 0,.s [],.i 0,.i 0,.s [],.i 0,.tip 4 [],.tip 4 [],.tip 10 [],.i 0])),(10005,.a (a00)),(10006,.a (.agg [.s s,.i kd,.tip 1 (strs gs),.p (.bool b1),.p (.bool b2),.tip 6 b.1,.tip 3 [],.i 0,.s [],.i 0,.i 0,.s [],.i 0,.tip 4 [],.tip 4 [],.tip 10 [],.i 0])),(10012,.a (.agg [.l 1 (strs gs),.i 0,.s [],.i 0,.tip 4 []]))]) (fun b=>b.2<=q8.length/\b.1.length<=b.2/\RowsOf FiR b.1) (fun b=>q8.length-b.2) (a₀:=([],0)) rfl ⟨Yd _,Yc _,RowsOf.nil⟩ ?_
        rintro ⟨fs,j⟩ ⟨x0,x1,x2⟩;dsimp only at x0 x1 x2;by_cases hj8:j<q8.length;rotate_left;simp(disch:=omega);rotate_left;obtain ⟨m',q1,q2⟩:=h8.get hj8;obtain ⟨o2,n2,k2',m2',z2,s2,u2,a2,t2,l2,e⟩:=q2.form;rw [e] at q2;obtain ⟨_,_,_,_,f1,f2,f3,f4,f5,_⟩:=q2.inv;simp(disch:=omega)[e])
     | (refine Lp.rule (fun (b:LP×Nat)=>[fR 2,fR 4,fR 5,fR 6,(9,.a (.one (.l 10 q9))),(10,.a (.one (.l 10 q10))),fR 12,(16,.a (pi b.2)),o9,(10002,.a (aW ty ki ar mo pr hi)),(10004,.a (.agg [.s [],.i 0,.tip 1 [],.p (.bool false),.p (.bool false),.tip 6 [],.tip 3 [],.i 0,.s [],.i 0,.i 0,.s [],.i 0,.tip 4 [],.tip 4 [],.tip 10 [],.i 0])),(10005,.a (a00)),(10006,.a (.agg [.s s,.i kd,.tip 1 (strs gs),.p (.bool b1),.p (.bool b2),.tip 6 fs,.tip 3 b.1,.i 0,.s [],.i 0,.i 0,.s [],.i 0,.tip 4 [],.tip 4 [],.tip 10 [],.i 0])),(10012,.a (.agg [.l 1 (strs gs),.i 0,.s [],.i 0,.tip 4 []]))]) (fun b=>b.2<=q9.length/\b.1.length<=b.2/\RowsOf CaR b.1) (fun b=>q9.length-b.2) (a₀:=([],0)) rfl ⟨Yd _,Yc _,RowsOf.nil⟩ ?_
        rintro ⟨cs,j⟩ ⟨y0,y1,y2⟩;dsimp only at y0 y1 y2;by_cases hj9:j<q9.length;rotate_left;simp(disch:=omega);rotate_left;obtain ⟨m',q1,q2⟩:=h9.get hj9;obtain ⟨o2,n2,k2',m2',z2,s2,u2,a2,t2,l2,e⟩:=q2.form;rw [e] at q2;obtain ⟨_,_,_,_,f1,f2,f3,f4,f5,_⟩:=q2.inv;have f6:=f3.len;simp(disch:=omega)[e])
     | (refine Lp.rule (fun (b:LP×Nat)=>[fR 2,fR 4,fR 5,fR 6,(9,.a (.one (.l 10 q9))),(10,.a (.one (.l 10 q10))),fR 12,(16,.a (pi j)),fR 17,(18,.a (pi b.2)),o9,(10002,.a (aW ty ki ar mo pr hi)),(10004,.a (.agg [.s [],.i 0,.tip 1 [],.p (.bool false),.p (.bool false),.tip 6 [],.tip 3 [],.i 0,.s [],.i 0,.i 0,.s [],.i 0,.tip 4 [],.tip 4 [],.tip 10 [],.i 0])),(10005,.a (a00)),(10006,.a (.agg [.s s,.i kd,.tip 1 (strs gs),.p (.bool b1),.p (.bool b2),.tip 6 fs,.tip 3 cs,.i 0,.s [],.i 0,.i 0,.s [],.i 0,.tip 4 [],.tip 4 [],.tip 10 [],.i 0])),(10012,.a (.agg [.l 1 (strs gs),.i 0,.s [],.i 0,.tip 4 []])),(10017,.a (.agg [.s s2,.tip 4 b.1,.p (.bool (decide (n2=1)))]))]) (fun b=>b.2<=t2.length/\b.1.length<=b.2/\ ∃m,FTys m b.1) (fun b=>t2.length-b.2) (a₀:=([],0)) rfl ⟨Yd _,Yc _,0,FTys.nil⟩ ?_
        rintro ⟨ts,i⟩ ⟨v0,v1,v,v2⟩;dsimp only at v0 v1 v2;by_cases hii:i<t2.length;rotate_left;simp(disch:=omega)[e];rotate_left;obtain ⟨m5,w8,w9⟩:=f3.get hii;obtain ⟨k5,n5,s5,a5,e5⟩:=w9.form;rw [e5] at w9;simp(disch:=omega)[e,e5])
     | (refine ZeD H h8 hj8 (fun x=>?_);cases x<;>simp(disch:=omega)[e])
     | (refine ZeD H h9 hj9 (fun x=>?_);cases x<;>simp(disch:=omega)[e])
     | (refine Zc9 H hW (gs:=gs) hgs FTy.zero f2 (fun m9 k9 n9 e9 s9 a9 h9=>?_);simp(disch:=omega)[e])
     | (refine Zc9 H hW (gs:=gs) hgs FTy.zero w9 (fun m9 k9 n9 e9 s9 a9 h9=>?_);simp(disch:=omega)[e,e5])
     | exact RdN.mk (_,i+1) rfl ⟨hii,by simp;omega,_,v2.snoc h9 Zo⟩ dO
     | exact RdN.mk (_,j+1) rfl ⟨hj8,by simp;omega,x2.snoc ⟨_,_,_,_,_,_,_,rfl,f1,h9⟩ Zo⟩ dO
     | exact RdN.mk (_,j+1) rfl ⟨hj9,by simp;omega,y2.snoc ⟨_,_,_,_,rfl,f1,v2⟩ Zo⟩ dO
     | exact hQ _ _ _ _ _ _ _ _ _ _ _ _ _ _ _ _ _ _ _ _ g2 hgs x2 y2 FNd.zero (fun _=>rfl)
     | exact hQ _ _ _ _ _ _ _ _ _ _ _ _ _ _ _ _ _ _ _ _ g2 hgs x2 y2 d9 (fun _=>rfl)
     | (refine Zlx H d9 ?_;simp(disch:=omega)[e,e7])
     | (refine Zaf (fun hc=>?_) (fun hc=>?_)
        have hc3:0<q10.length:=by first|(simp only [decide_eq_true_eq] at hc;omega)|(simp only [decide_eq_true_eq,Int.natCast_pos] at hc;exact hc)
        obtain ⟨m',q1,q2⟩:=h10.get (j:=0) hc3;obtain ⟨o2,n2,k2',m2',z2,s2,u2,a2,t2,l2,e⟩:=q2.form;rw [e] at q2;obtain ⟨_,_,_,_,f1,f2,f3,f4,f5,_⟩:=q2.inv;obtain ⟨r0,hr0⟩:=ho10 0 hc3;obtain rfl:o2=15:=by rw [hr0] at e;simp only [Yf,P.int.injEq,true_and] at e;exact e.1.symm
        obtain ⟨m7,d8,d9⟩:=f4.get (j:=0) (f5 rfl);obtain ⟨o7,n7,k7,m7',z7,s7,u7,a7,t7,l7',e7⟩:=d9.form;rw [e7] at d9
        all_goals (first|simp(disch:=omega)[hc,e,e7]|simp(disch:=omega)[hc]))
     | (refine Tcs (fun hc=>?_) (fun hc=>?_)<;>simp(disch:=omega)[hc,e,e7]<;>try simp only [bz] at hc)
     | (refine Tcs (fun hc=>?_) (fun hc=>?_)<;>simp(disch:=omega)[hc,e,e5]<;>try simp only [bz] at hc)
     | (refine Tcs (fun hc=>?_) (fun hc=>?_)<;>simp(disch:=omega)[hc,e]<;>try simp only [bz] at hc)
     | (refine Tcs (fun hc=>?_) (fun hc=>?_)<;>simp(disch:=omega)[hc]<;>try simp only [bz] at hc)
     | (exfalso;omega))
end Go.Am.Fe
end
section
namespace Go.Am.Fe
variable {S:SF} {Q:QF}
attribute [local simp] ZbO if_pos if_neg decide_eq_true decide_eq_false Yi Yj ZgF
def FNds.len_le {m:Nat} {rs:LP} (h:FNds m rs):rs.length<=m:=by
 obtain ⟨l,rfl,a,b,c⟩:=h;rw [Nd.encs_length];have:=Nd.len_le (a:=l);omega
theorem FNds.parts {m:Nat} {rs:LP} (h:FNds m rs): ∃f:Nat->Nat,f 0=0/\(∀j,j<=rs.length->f j<=m)/\ ∀j (hj:j<rs.length),∃mj,f (j+1)=f j+mj/\FNd mj rs[j]:=by
 induction rs generalizing m with
 | nil=>exact ⟨fun _=>0,rfl,fun _ _=>Yd _,fun j hj=>by simp at hj⟩
 | cons r rs ih=>
   obtain ⟨m1,m2,h1,h2,h3⟩:=h.uncons;obtain ⟨f,f0,f1,f2⟩:=ih h3;refine ⟨fun j=>match j with|0=>0|j+1=>m1+f j,rfl,fun j hj=>?_,fun j hj=>?_⟩
   · cases j with
     | zero=>exact Yd _
     | succ j=>have:=f1 j (by simpa using hj);show m1+f j<=m;omega
   · cases j with
     | zero=>exact ⟨m1,by show m1+f 0=0+m1;omega,h2⟩
     | succ j=>
       obtain ⟨mj,e,g⟩:=f2 j (by simpa using hj);exact ⟨mj,by show m1+f (j+1)=m1+f j+mj;omega,g⟩
def Sx.nil:Sx []:=Sn.nil.sx
def Zpe (H:Has S) {ty pr:List LN} {ki ar:List Int} {mo hi:List Bool} (hW:Nm ty ki ar mo pr hi) {mm:Nat} {o n k m z:Int} {s u:LN} {a t l:LP} {sy:LN} (hsy:Sx sy) (hmm:mm<=24000) (ht:FNd mm (rN o s n k u m a t l z)) (hQ:(∀(mm m1 m2:Nat) (s8:LN) (gs:List LN) (qs ps:LP) (k1 n1 k2 n2:Int) (s1 s2:LN) (a1 a2:LP) (o' n' k' m' z':Int) (s' u':LN) (a' t' l':LP) (c x:Int),Sx s8->Sns gs->RowsOf ReR qs->RowsOf PaR ps->FTy m1 (rT k1 s1 n1 a1)->FTy m2 (rT k2 s2 n2 a2)->FNd mm (rN o' s' n' k' u' m' a' t' l' z')->Q [.agg [.s s8,.l 1 (strs gs),.l 10 qs,.l 6 ps,.i k1,.s s1,.i n1,.l 4 a1,.i k2,.s s2,.i n2,.l 4 a2,.i o',.s s',.i n',.i k',.s u',.i m',.l 4 a',.l 4 t',.l 10 l',.i z'],.agg [.i c,.i x]] [])):Gives S ZcA [aW ty ki ar mo pr hi,aN o s n k u m a t l z,ps sy] [] Q:=by
 obtain ⟨m1,m2,m3,g1,g2,g3,g4,g5,_⟩:=ht.inv;have ht2:=ht;have w1:=hW.t.1;have w2:=hW.p.1;have w3:=hW.k;have w4:=hW.a;have w5:=hW.m;have w6:=hW.h;refine .code H.ZlK rfl ?_;simp(disch:=omega)[ZdA];refine Zfs H g5 fun q8 h8 ho8=>?_;simp(disch:=omega);refine Zfs H g5 fun q9 h9 ho9=>?_;simp(disch:=omega);refine Zfs H g5 fun q10 h10 ho10=>?_;have l8:=h8.len;have l9:=h9.len;have l10:=h10.len;have l10':=h10.len_le;obtain ⟨f,f0,fa,fb⟩:=h8.parts;simp(disch:=omega);refine Zpd H ht2 fun mb ob nb kb mb' zb sb ub ab tb lb hb=>?_;simp(disch:=omega);refine Lp.rule (fun (b:Int×Nat)=>[fR 3,fR 4,fR 6,fR 7,(8,.a (.one (.l 10 q8))),(9,.a (.one (.l 10 q9))),(10,.a (.one (.l 10 q10))),fR 11,(12,.a (pi b.1)),(13,.a (pi b.2)),o9,(10003,.a (aW ty ki ar mo pr hi)),(10004,.a (aN o s n k u m a t l z)),(10006,.a (aF0)),(10007,.a (a00)),(10011,.a (.agg [.s sy,.tip 1 [],.tip 10 [],.tip 6 [],.i 0,.s [],.i 0,.tip 4 [],.i 0,.s [],.i 0,.tip 4 [],.i ob,.s sb,.i nb,.i kb,.s ub,.i mb',.l 4 ab,.l 4 tb,.l 10 lb,.i zb]))]) (fun b=>b.2<=q8.length) (fun b=>q8.length-b.2) (a₀:=(0,0)) rfl (Yd _) ?_;rintro ⟨cnt,j⟩ k0;dsimp only at k0;by_cases hj:j<q8.length
 · obtain ⟨m',q1,q2⟩:=h8.get hj;obtain ⟨o2,n2,k2',m2',z2,s2,u2,a2,t2,l2,e⟩:=q2.form;rw [e] at q2;obtain ⟨_,_,_,_,f1,f2,f3,f4,f5,_⟩:=q2.inv;simp(disch:=omega)[e];exact RdN.mk (_,j+1) rfl hj dO
 · simp(disch:=omega)
   repeat' (first
     | exact hQ _ _ _ _ [] _ _ _ _ _ _ _ _ _ _ _ _ _ _ _ _ _ _ _ _ _ _ Sx.nil Sns.nil RowsOf.nil RowsOf.nil FTy.zero FTy.zero FNd.zero
     | (refine ZaH H (fun x=>?_);simp(disch:=omega))
     | (refine Lp.rule (fun (b:List LN×LP×Nat)=>[fR 3,fR 4,fR 6,fR 7,(8,.a (.one (.l 10 q8))),(9,.a (.one (.l 10 q9))),(10,.a (.one (.l 10 q10))),fR 11,(14,.a (pi b.2.2)),o9,(10003,.a (aW ty ki ar mo pr hi)),(10004,.a (aN o s n k u m a t l z)),(10006,.a (aF0)),(10007,.a (a00)),(10011,.a (.agg [.s sy,.tip 1 (strs b.1),.tip 10 b.2.1,.tip 6 [],.i 0,.s [],.i 0,.tip 4 [],.i 0,.s [],.i 0,.tip 4 [],.i ob,.s sb,.i nb,.i kb,.s ub,.i mb',.l 4 ab,.l 4 tb,.l 10 lb,.i zb]))]) (fun b=>b.2.2<=q8.length/\b.1.length<=b.2.2/\Sns b.1/\b.2.1.length<=f b.2.2/\RowsOf ReR b.2.1) (fun b=>q8.length-b.2.2) (a₀:=([],[],0)) rfl ⟨Yd _,Yc _,Sns.nil,Yd _,RowsOf.nil⟩ ?_
        rintro ⟨gs,qs,j⟩ ⟨x0,x1,hgs,x2,x3⟩;dsimp only at x0 x1 hgs x2 x3;have x4:=fa j x0;by_cases hj8:j<q8.length;rotate_left;simp(disch:=omega);rotate_left;obtain ⟨m',q1,q2⟩:=fb j hj8;obtain ⟨o2,n2,k2',m2',z2,s2,u2,a2,t2,l2,e⟩:=q2.form;rw [e] at q2;obtain ⟨_,_,_,f1',f1,f2,f3,f4,f5,_⟩:=q2.inv;have f6:=f4.len_le;have x5:=fa (j+1) Zo;simp(disch:=omega)[e,Zaz])
     | (refine Lp.rule (fun (b:LP×Nat)=>[fR 3,fR 4,fR 6,fR 7,(8,.a (.one (.l 10 q8))),(9,.a (.one (.l 10 q9))),(10,.a (.one (.l 10 q10))),fR 11,(14,.a (pi j)),(15,.a (pi b.2)),o9,(10003,.a (aW ty ki ar mo pr hi)),(10004,.a (aN o s n k u m a t l z)),(10006,.a (aF0)),(10007,.a (a00)),(10011,.a (.agg [.s sy,.tip 1 (strs (gs++[s2])),.tip 10 b.1,.tip 6 [],.i 0,.s [],.i 0,.tip 4 [],.i 0,.s [],.i 0,.tip 4 [],.i ob,.s sb,.i nb,.i kb,.s ub,.i mb',.l 4 ab,.l 4 tb,.l 10 lb,.i zb]))]) (fun b=>b.2<=l2.length/\b.1.length<=qs.length+b.2/\RowsOf ReR b.1) (fun b=>l2.length-b.2) (a₀:=(qs,0)) rfl ⟨Yd _,Yc _,x3⟩ ?_
        rintro ⟨qs',i⟩ ⟨y0,y1,y2⟩;dsimp only at y0 y1 y2;by_cases hii:i<l2.length;rotate_left;simp(disch:=omega)[e];rotate_left;obtain ⟨m'x,q1x,q2x⟩:=f4.get hii;obtain ⟨o2x,n2x,k2'x,m2'x,z2x,s2x,u2x,a2x,t2x,l2x,ex⟩:=q2x.form;rw [ex] at q2x;obtain ⟨_,_,_,_,f1x,f2x,f3x,f4x,f5x,_⟩:=q2x.inv;simp(disch:=omega)[e,ex])
     | (refine Lp.rule (fun (j:Nat)=>[fR 3,fR 4,fR 6,fR 7,(9,.a (.one (.l 10 q9))),(10,.a (.one (.l 10 q10))),fR 11,fR 17,(18,.a (pi j)),o9,(10003,.a (aW ty ki ar mo pr hi)),(10004,.a (aN o s n k u m a t l z)),(10006,.a (aF0)),(10007,.a (a00)),(10011,.a (.agg [.s sy,.tip 1 (strs gs),.tip 10 qs,.tip 6 [],.i 0,.s [],.i 0,.tip 4 [],.i 0,.s [],.i 0,.tip 4 [],.i ob,.s sb,.i nb,.i kb,.s ub,.i mb',.l 4 ab,.l 4 tb,.l 10 lb,.i zb])),(10017,.a (.agg [.l 1 (strs gs),.i 0,.s [],.i 0,.tip 4 []]))]) (fun j=>j<=q9.length) (fun j=>q9.length-j) (a₀:=0) rfl (Yd _) ?_
        intro j v0;by_cases hj9:j<q9.length;rotate_left;simp(disch:=omega);rotate_left;obtain ⟨m',q1,q2⟩:=h9.get hj9;obtain ⟨o2,n2,k2',m2',z2,s2,u2,a2,t2,l2,e⟩:=q2.form;rw [e] at q2;obtain ⟨_,_,_,_,f1,f2,f3,f4,f5,_⟩:=q2.inv;simp(disch:=omega)[e])
     | (refine Lp.rule (fun (b:LP×Nat)=>[fR 6,fR 7,fR 11,fR 21,(23,.a (.one (.l 10 rs))),(24,.a (pi b.2)),o9,(10006,.a (aF0)),(10007,.a (a00)),(10011,.a (.agg [.s sy,.tip 1 (strs gs),.tip 10 b.1,.tip 6 [],.i 0,.s [],.i 0,.tip 4 [],.i 0,.s [],.i 0,.tip 4 [],.i ob,.s sb,.i nb,.i kb,.s ub,.i mb',.l 4 ab,.l 4 tb,.l 10 lb,.i zb])),(10021,.a (.agg [.l 6 ps,.i k1,.s s1,.i n1,.l 4 a1,.i k2,.s s2,.i n2,.l 4 a2]))]) (fun b=>b.2<=rs.length/\b.1.length<=qs.length+b.2/\RowsOf ReR b.1) (fun b=>rs.length-b.2) (a₀:=(qs,0)) rfl ⟨Yd _,Yc _,x3⟩ ?_
        rintro ⟨qs',i⟩ ⟨w0,w1',w2'⟩;dsimp only at w0 w1' w2';by_cases hii:i<rs.length;rotate_left;simp(disch:=omega);rotate_left;have rr:=r1.get hii;have rr2:=rr;obtain ⟨_,_,_,_,_,_,_,_,_,_,_,_,er,_,_,_⟩:=rr;simp(disch:=omega)[er])
     | (refine ZmE H hW h8 hj8 (fun x=>?_);cases x<;>simp(disch:=omega)[e,Zaz])
     | (refine ZeD H h9 hj9 (fun x=>?_);cases x<;>simp(disch:=omega)[e])
     | (refine Zc9 H hW (gs:=gs) hgs FTy.zero f2 (fun m9 k9 n9 e9 s9 a9 h9'=>?_);simp(disch:=omega)[e])
     | (refine ZoK H hW (gs:=gs) hgs FTy.zero ht2 (fun ps m1 m2 k1 n1 k2 n2 s1 s2 a1 a2 c x b1 b2 b3 b4=>?_);simp(disch:=omega))
     | (refine ZgN H hW (gs:=gs) hgs FTy.zero h10 ho10 (fun rs c x r1 r2=>?_);simp(disch:=omega))
     | (refine Zeh H Zo (fun x hx hx2=>?_) (fun x hx hx2=>?_)<;>(try subst hx)<;>simp(disch:=omega)[e,ex])
     | (refine Zeh H Zo (fun x hx hx2=>?_) (fun x hx hx2=>?_)<;>(try subst hx)<;>simp(disch:=omega)[e])
     | exact RdN.mk (_,i+1) rfl ⟨hii,by simp;omega,y2.snoc ⟨_,_,_,_,_,_,_,_,_,_,_,_,rfl,f1x,FTy.mk f1 FTys.nil Zo,FTy.zero⟩ Zo⟩ dO
     | exact RdN.mk (_,_,j+1) rfl ⟨hj8,by simp;omega,hgs.snoc f1 Zo,dO,y2⟩ dO
     | exact RdN.mk (j+1) rfl hj9 Zo
     | exact RdN.mk (_,i+1) rfl ⟨hii,by simp;omega,w2'.snoc (er ▸ rr2) Zo⟩ dO
     | exact hQ _ _ _ _ _ _ _ _ _ _ _ _ _ _ _ _ _ _ _ _ _ _ _ _ _ _ _ hsy hgs w2' b1 b3 b4 hb
     | (refine Tcs (fun hc=>?_) (fun hc=>?_)<;>simp(disch:=omega)[hc,e,ex,Zaz]<;>try simp only [bz] at hc)
     | (refine Tcs (fun hc=>?_) (fun hc=>?_)<;>simp(disch:=omega)[hc,e,Zaz]<;>try simp only [bz] at hc)
     | (refine Tcs (fun hc=>?_) (fun hc=>?_)<;>simp(disch:=omega)[hc]<;>try simp only [bz] at hc)
     | (exfalso;omega))
end Go.Am.Fe
end
