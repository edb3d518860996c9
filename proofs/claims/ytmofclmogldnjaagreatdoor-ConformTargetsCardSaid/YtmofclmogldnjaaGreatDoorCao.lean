/- Part. -/
import Derived.Test.YtmofclmogldnjaaGreatDoorCak
set_option maxRecDepth 999999
set_option maxHeartbeats 0
set_option linter.all false
section
namespace Go.Am.Fe
variable {S:SF} {Q:QF}
attribute [local simp] ZbO if_pos if_neg decide_eq_true decide_eq_false Yi Yj ZgF
def IsTys.get {m:Nat} {rs:LP} (h:IsTys m rs) {j:Nat} (hj:j<rs.length): ∃m',m'<=m/\IsTy m' rs[j]:=by
 induction rs generalizing m j with
 | nil=>simp at hj
 | cons r rs ih=>
   obtain ⟨m1,m2,h1,h2,h3⟩:=h.uncons;cases j with
   | zero=>exact ⟨m1,by omega,h2⟩
   | succ j=>
     obtain ⟨m',h4,h5⟩:=ih h3 (j:=j) (by simpa using hj);exact ⟨m',by omega,h5⟩
def ZCA (S:SF) (n:Nat):Prop:= ∀(m1 m2:Nat) (k1 n1 k2 n2:Int) (s1 s2:LN) (a1 a2:LP) (Q:QF),m1<n->m1<=1000000->m2<=1000000->IsTy m1 [.i k1,.str s1,.i n1,.sl 4 a1]->IsTy m2 [.i k2,.str s2,.i n2,.sl 4 a2]->(∀b:Bool,Q [pb b] [])->
 Gives S ZbG [aT k1 s1 n1 a1,aT k2 s2 n2 a2] [] Q
def Zmj (H:Has S) {n:Nat} (ih:ZCA S n) {m1 m2:Nat} {a1 a2:LP} (hm:m1<n) (hm1:m1<=1000000) (hm2:m2<=1000000) (h1:IsTys m1 a1) (h2:IsTys m2 a2) (hQ: ∀b:Bool,Q [pb b] []):
  Gives S ZdD [.one (.l 4 a1),.one (.l 4 a2)] [] Q:=by
 have g1:=h1.len;have g2:=h2.len;refine .code H.ZqJ rfl ?_;simp(disch:=omega)[Zhc];by_cases hl:a1.length=a2.length
 ·simp(disch:=omega)[hl];refine Lp.rule (fun (j:Nat)=>[(0,.a (.one (.l 4 a1))),(1,.a (.one (.l 4 a2))),(5,.a (pi j)),o9]) (fun j=>j<=a1.length) (fun j=>a1.length-j) (a₀:=0) Zs (Yd _) ?_;intro j k1;by_cases hj:j<a1.length
  ·obtain ⟨m3,q1,q2⟩:=h1.get hj;obtain ⟨k3,n3,s3,a3,e3⟩:=q2.form;obtain ⟨m4,q3,q4⟩:=h2.get (j:=j) Zo;obtain ⟨k4,n4,s4,a4,e4⟩:=q4.form;rw [e3] at q2;rw [e4] at q4;simp(disch:=omega)[e3,e4];refine ih m3 m4 _ _ _ _ _ _ _ _ _ Zo Zo Zo q2 q4 fun b=>?_;cases b
   ·simp(disch:=omega);exact hQ _
   ·simp(disch:=omega);exact RdN.mk (j+1) rfl hj (by first|omega|(dsimp only;omega))
  ·simp(disch:=omega);exact hQ _
 ·simp(disch:=omega)[hl];exact hQ _
def ZsL (H:Has S): ∀n,ZCA S n
 | 0=>fun _ _ _ _ _ _ _ _ _ _ _ h=>absurd h (YI _)
 | n+1=>by
   intro m1 m2 k1 n1 k2 n2 s1 s2 a1 a2 Q hm hm1 hm2 h1 h2 hQ;have ih:=ZsL H n;obtain ⟨m3,g1,_,g3,_⟩:=h1.inv;obtain ⟨m4,g4,_,g6,_⟩:=h2.inv;refine .code H.Ztw rfl ?_;simp(disch:=omega)[Ziv]
   repeat' (first
     | exact hQ _
     | (refine Zmj H ih Zo Zo Zo g3 g6 (fun b=>?_);simp(disch:=omega))
     | (refine Zaf (fun hc=>?_) (fun hc=>?_)<;>simp(disch:=omega)[hc]<;>try simp only [bz] at hc)
     | (refine Zap (fun hc=>?_) (fun hc=>?_)<;>simp(disch:=omega)[hc])
     | (refine Zam (fun hc=>?_) (fun hc=>?_)<;>simp(disch:=omega)[hc])
     | (exfalso;omega))
def ZoD (H:Has S) {m1 m2:Nat} {k1 n1 k2 n2:Int} {s1 s2:LN} {a1 a2:LP} (hm1:m1<=1000000) (hm2:m2<=1000000) (h1:IsTy m1 [.i k1,.str s1,.i n1,.sl 4 a1]) (h2:IsTy m2 [.i k2,.str s2,.i n2,.sl 4 a2]) (hQ: ∀b:Bool,Q [pb b] []):
 Gives S ZbG [aT k1 s1 n1 a1,aT k2 s2 n2 a2] [] Q:=ZsL H (m1+1) m1 m2 _ _ _ _ _ _ _ _ _ (Yz _) hm1 hm2 h1 h2 hQ
def ZmK (H:Has S) {m1 m2:Nat} {a1 a2:LP} (hm1:m1<=1000000) (hm2:m2<=1000000) (h1:IsTys m1 a1) (h2:IsTys m2 a2) (hQ: ∀b:Bool,Q [pb b] []):
 Gives S ZdD [.one (.l 4 a1),.one (.l 4 a2)] [] Q:=Zmj H (ZsL H (m1+1)) (Yz _) hm1 hm2 h1 h2 hQ
def ZCu (S:SF) (n:Nat):Prop:= ∀(b1 b2:Nat) (o1 n1 k1 m1 z1:Int) (s1 u1:LN) (a1 t1 l1:LP) (o2 n2 k2 m2 z2:Int) (s2 u2:LN) (a2 t2 l2:LP) (ps:Bool) (Q:QF),b1<n->b1<=1000000->b2<=1000000->IsNd b1 [.i o1,.str s1,.i n1,.i k1,.str u1,.i m1,.sl 4 a1,.sl 4 t1,.sl 10 l1,.i z1]->IsNd b2 [.i o2,.str s2,.i n2,.i k2,.str u2,.i m2,.sl 4 a2,.sl 4 t2,.sl 10 l2,.i z2]->(∀b:Bool,Q [pb b] [])->
 Gives S ZgL [aN o1 s1 n1 k1 u1 m1 a1 t1 l1 z1,aN o2 s2 n2 k2 u2 m2 a2 t2 l2 z2,pb ps] [] Q
def ZmI (H:Has S) {n:Nat} (ih:ZCu S n) {m1 m2:Nat} {a1 a2:LP} {ps:Bool} (hm:m1<n) (hm1:m1<=1000000) (hm2:m2<=1000000) (h1:IsNds m1 a1) (h2:IsNds m2 a2) (hQ: ∀b:Bool,Q [pb b] []):
  Gives S Zhb [.one (.l 10 a1),.one (.l 10 a2),pb ps] [] Q:=by
 have g1:=h1.len;have g2:=h2.len;refine .code H.ZuP rfl ?_;simp(disch:=omega)[ZjJ];by_cases hl:a1.length=a2.length
 ·simp(disch:=omega)[hl];refine Lp.rule (fun (j:Nat)=>[(0,.a (.one (.l 10 a1))),(1,.a (.one (.l 10 a2))),(2,.a (pb ps)),(7,.a (pi j)),o9]) (fun j=>j<=a1.length) (fun j=>a1.length-j) (a₀:=0) Zs (Yd _) ?_;intro j k1;by_cases hj:j<a1.length
  ·obtain ⟨m3,q1,q2⟩:=h1.get hj;obtain ⟨op3,n3,k3,mm3,a3,s4,s5,args3,ts3,ls3,e3⟩:=q2.form;obtain ⟨m4,q3,q4⟩:=h2.get (j:=j) Zo;obtain ⟨op4,n4,k4,mm4,a4,s6,s7,args4,ts4,ls4,e4⟩:=q4.form;rw [e3] at q2;rw [e4] at q4;simp(disch:=omega)[e3,e4];refine ih m3 m4 _ _ _ _ _ _ _ _ _ _ _ _ _ _ _ _ _ _ _ _ _ _ Zo Zo Zo q2 q4 fun b=>?_;cases b
   ·simp(disch:=omega);exact hQ _
   ·simp(disch:=omega);exact RdN.mk (j+1) rfl hj (by first|omega|(dsimp only;omega))
  ·simp(disch:=omega);exact hQ _
 ·simp(disch:=omega)[hl];exact hQ _
def Zvm (H:Has S): ∀n,ZCu S n
 | 0=>fun _ _ _ _ _ _ _ _ _ _ _ _ _ _ _ _ _ _ _ _ _ _ _ _ h=>absurd h (YI _)
 | n+1=>by
   intro b1 b2 o1 n1 k1 m1 z1 s1 u1 a1 t1 l1 o2 n2 k2 m2 z2 s2 u2 a2 t2 l2 ps Q hm hm1 hm2 h1 h2 hQ;have ih:=Zvm H n;obtain ⟨c1,c2,c3,g1,_,g3,g4,g5,_⟩:=h1.inv;obtain ⟨d1,d2,d3,f1,_,f3,f4,f5,_⟩:=h2.inv;refine .code H.Zw7 rfl ?_;cases ps
   · simp(disch:=omega)[ZiB]
     repeat' (first
       | exact hQ _
       | (refine ZoD H Zo Zo g3 f3 (fun b=>?_);simp(disch:=omega))
       | (refine ZmK H Zo Zo g4 f4 (fun b=>?_);simp(disch:=omega))
       | (refine ZmI H ih Zo Zo Zo g5 f5 (fun b=>?_);simp(disch:=omega))
       | (refine Zaf (fun hc=>?_) (fun hc=>?_)<;>simp(disch:=omega)[hc]<;>try simp only [bz] at hc)
       | (refine Zap (fun hc=>?_) (fun hc=>?_)<;>simp(disch:=omega)[hc])
       | (refine Zam (fun hc=>?_) (fun hc=>?_)<;>simp(disch:=omega)[hc])
       | (exfalso;omega))
   · simp(disch:=omega)[ZiB]
     repeat' (first
       | exact hQ _
       | (refine ZoD H Zo Zo g3 f3 (fun b=>?_);simp(disch:=omega))
       | (refine ZmK H Zo Zo g4 f4 (fun b=>?_);simp(disch:=omega))
       | (refine ZmI H ih Zo Zo Zo g5 f5 (fun b=>?_);simp(disch:=omega))
       | (refine Zaf (fun hc=>?_) (fun hc=>?_)<;>simp(disch:=omega)[hc]<;>try simp only [bz] at hc)
       | (refine Zap (fun hc=>?_) (fun hc=>?_)<;>simp(disch:=omega)[hc])
       | (refine Zam (fun hc=>?_) (fun hc=>?_)<;>simp(disch:=omega)[hc])
       | (exfalso;omega))
def ZwI (H:Has S) {b1 b2:Nat} {o1 n1 k1 m1 z1:Int} {s1 u1:LN} {a1 t1 l1:LP} {o2 n2 k2 m2 z2:Int} {s2 u2:LN} {a2 t2 l2:LP} (hm1:b1<=1000000) (hm2:b2<=1000000) (h1:IsNd b1 [.i o1,.str s1,.i n1,.i k1,.str u1,.i m1,.sl 4 a1,.sl 4 t1,.sl 10 l1,.i z1]) (h2:IsNd b2 [.i o2,.str s2,.i n2,.i k2,.str u2,.i m2,.sl 4 a2,.sl 4 t2,.sl 10 l2,.i z2]) (hQ: ∀b:Bool,Q [pb b] []):
 Gives S ZmO [aN o1 s1 n1 k1 u1 m1 a1 t1 l1 z1,aN o2 s2 n2 k2 u2 m2 a2 t2 l2 z2] [] Q:=by
 refine .code H.ZAH rfl ?_;simp(disch:=omega)[ZpE];refine Zvm H (b1+1) b1 b2 _ _ _ _ _ _ _ _ _ _ _ _ _ _ _ _ _ _ _ _ _ _ (Yz _) hm1 hm2 h1 h2 fun b=>?_;simp(disch:=omega);exact hQ _
structure HasPr (S:SF):Prop where
 print: ∀(op n' k m a:Int) (s s2:LN) (args ts ls:LP) (Q:QF),IsNds 24000 ls->(∀src:LN,src.length<ZeA->Byt src->Q [ps src] [])->
  Gives S Znh [aN op s n' k s2 m args ts ls a] [] Q
def Zuv (H:Has S) (HR:HasPr S) {n' k m a:Int} {s s2:LN} {args ts ls:LP} {mm:Nat} (hmm:mm<=1000000) (hn:IsNd mm [.i 1,.str s,.i n',.i k,.str s2,.i m,.sl 4 args,.sl 4 ts,.sl 10 ls,.i a]) (hl:IsNds 24000 ls) (hQ: ∀b:Bool,Q [pb b] []):
  Gives S Zkt [aN 1 s n' k s2 m args ts ls a] [] Q:=by
 have hn2:=hn;refine .code H.ZxE rfl ?_;simp(disch:=omega)[Znx];refine Zsq H hmm hn2 fun x y=>?_;simp(disch:=omega)
 repeat' (first
    | exact hQ _
    | (refine Zwy H hmm hn2 (fun x=>?_);simp(disch:=omega))
    | (refine HR.print _ _ _ _ _ _ _ _ _ _ _ hl (fun src h1 h2=>?_);simp(disch:=omega))
    | (refine Zow H h1 h2 (fun ls2 h3=>?_) (fun op3 n3 k3 m3 a3 s3 s4 args3 ts3 ls3 fs h3 h4=>?_)<;>simp(disch:=omega))
    | (refine ZwI H (b1:=24003) Zo hmm (IsNd.le (IsNd.over Str.nil h3 Zd Zd) Zo) hn2 (fun b=>?_);simp(disch:=omega))
    | (refine Zaf (fun hc=>?_) (fun hc=>?_)<;>simp(disch:=omega)[hc]<;>try simp only [bz] at hc)
    | (refine Zap (fun hc=>?_) (fun hc=>?_)<;>simp(disch:=omega)[hc])
    | (refine Zam (fun hc=>?_) (fun hc=>?_)<;>simp(disch:=omega)[hc])
    | (exfalso;omega))
end Go.Am.Fe
end
section
namespace Go.Am.Fe
variable {S:SF} {Q:QF}
attribute [local simp] ZbO if_pos if_neg decide_eq_true decide_eq_false Yi Yj ZgF
def Sn (s:LN):Prop:=s.length<=8000/\Byt s
def Sx (s:LN):Prop:=s.length<=100000/\Byt s
def Sn.sx {s:LN} (h:Sn s):Sx s:=⟨by have:=h.1;omega,h.2⟩
mutual
def Ty.fit:Ty->Prop
 | .mk k s _ args=>Sn s/\args.length<=100000/\((k=5∨k=8∨k=11)->args≠[])/\Ty.fits args
def Ty.fits:List Ty->Prop
 | []=>True
 | t::l=>t.fit/\Ty.fits l
end
mutual
def Nd.fit:Nd->Prop
 | .mk op s n t ts l _=>Sn s/\t.fit/\ts.length<=100000/\Ty.fits ts/\l.length<=100000/\Nd.fits l/\(op=15->l≠[])/\(op=12->n=2->ts≠[])
def Nd.fits:List Nd->Prop
 | []=>True
 | t::l=>t.fit/\Nd.fits l
end
def Str.sn {s:LN} (h:Str s):Sn s:=h
mutual
def Ty.good_fit: ∀(t:Ty),t.good->t.sz<=100000->t.fit
  | .mk k s n args,h,hs=>by
    obtain ⟨h1,h2,h3⟩:=h;have hs:1+Ty.szs args<=100000:=hs;have:=Ty.len_le (a:=args);exact ⟨h1.sn,by omega,h2,Ty.goods_fits args h3 Zo⟩
def Ty.goods_fits: ∀(l:List Ty),Ty.goods l->Ty.szs l<=100000->Ty.fits l
  | [],_,_=>trivial
  | t::l,h,hs=>by
    have hs:t.sz+Ty.szs l<=100000:=hs;exact ⟨Ty.good_fit t h.1 Zo,Ty.goods_fits l h.2 Zo⟩
end
mutual
def Nd.good_fit: ∀(t:Nd),t.good->t.sz<=100000->t.fit
  | .mk op s n t ts l a,h,hs=>by
    obtain ⟨h1,h2,h3,h4,h5,h6,_⟩:=h;have hs:1+t.sz+Ty.szs ts+Nd.szs l<=100000:=hs;have:=Ty.len_le (a:=ts);have:=Nd.len_le (a:=l);exact ⟨h1.sn,Ty.good_fit t h2 Zo,by omega,Ty.goods_fits ts h3 Zo,by omega,Nd.goods_fits l h4 Zo,h5,h6⟩
def Nd.goods_fits: ∀(l:List Nd),Nd.goods l->Nd.szs l<=100000->Nd.fits l
  | [],_,_=>trivial
  | t::l,h,hs=>by
    have hs:t.sz+Nd.szs l<=100000:=hs;exact ⟨Nd.good_fit t h.1 Zo,Nd.goods_fits l h.2 Zo⟩
end
def Ty.fits_app: ∀{a b:List Ty},Ty.fits (a++b)=(Ty.fits a/\Ty.fits b)
 | [],_=>by simp [Ty.fits]
 | x::a,b=>by simp [Ty.fits,Ty.fits_app (a:=a),and_assoc]
def Nd.fits_app: ∀{a b:List Nd},Nd.fits (a++b)=(Nd.fits a/\Nd.fits b)
 | [],_=>by simp [Nd.fits]
 | x::a,b=>by simp [Nd.fits,Nd.fits_app (a:=a),and_assoc]
def Nd.encs_map: ∀{l:List Nd},Nd.encs l=l.map Nd.enc
 | []=>rfl
 | x::l=>by simp [Nd.encs,Nd.encs_map (l:=l)]
def Ty.encs_map: ∀{l:List Ty},Ty.encs l=l.map Ty.enc
 | []=>rfl
 | x::l=>by simp [Ty.encs,Ty.encs_map (l:=l)]
def FTy (m:Nat) (r:List P):Prop:= ∃t:Ty,t.enc=r/\t.fit/\t.sz<=m
def FTys (m:Nat) (r:LP):Prop:= ∃l:List Ty,Ty.encs l=r/\l.length<=100000/\Ty.fits l/\Ty.szs l<=m
def FNd (m:Nat) (r:List P):Prop:= ∃t:Nd,t.enc=r/\t.fit/\t.sz<=m
def FNds (m:Nat) (r:LP):Prop:= ∃l:List Nd,Nd.encs l=r/\l.length<=100000/\Nd.fits l/\Nd.szs l<=m
def FTy.le {m m':Nat} {r:List P} (h:FTy m r) (hm:m<=m'):FTy m' r:=let ⟨t,h1,h2,h3⟩:=h;⟨t,h1,h2,Yy h3 hm⟩
def FTys.le {m m':Nat} {r:LP} (h:FTys m r) (hm:m<=m'):FTys m' r:=let ⟨t,h1,h2,h3,h4⟩:=h;⟨t,h1,h2,h3,Yy h4 hm⟩
def FTys.nil:FTys 0 []:=⟨[],rfl,by simp,trivial,Yc _⟩
def FTys.len {m:Nat} {rs:LP} (h:FTys m rs):rs.length<=100000:=by
 obtain ⟨l,rfl,a,b⟩:=h;rw [Ty.encs_length];exact a
def FTys.snoc {m m':Nat} {r:List P} {rs:LP} (h:FTys m rs) (h':FTy m' r) (hl:rs.length<100000):FTys (m+m') (rs++[r]):=by
 obtain ⟨l,rfl,a0,a,b⟩:=h;obtain ⟨t,rfl,c,d⟩:=h';rw [Ty.encs_length] at hl;exact ⟨l++[t],by simp [Ty.encs_app,Ty.encs],by simp;omega,by simp [Ty.fits_app,Ty.fits,a,c],by simp [Ty.szs_app,Ty.szs];omega⟩
def FTys.uncons {m:Nat} {r:List P} {rs:LP} (h:FTys m (r::rs)): ∃m1 m2,m1+m2<=m/\FTy m1 r/\FTys m2 rs:=by
 obtain ⟨l,e,hl,g,hs⟩:=h;cases l with
 | nil=>simp [Ty.encs] at e
 | cons x l=>
   simp only [Ty.encs,Yf] at e;obtain ⟨rfl,rfl⟩:=e;exact ⟨_,_,hs,⟨_,rfl,g.1,Yc _⟩,⟨_,rfl,by simp at hl;omega,g.2,Yc _⟩⟩
def FTys.get {m:Nat} {rs:LP} (h:FTys m rs) {j:Nat} (hj:j<rs.length): ∃m',m'<=m/\FTy m' rs[j]:=by
 induction rs generalizing m j with
 | nil=>simp at hj
 | cons r rs ih=>
   obtain ⟨m1,m2,h1,h2,h3⟩:=h.uncons;cases j with
   | zero=>exact ⟨m1,by omega,h2⟩
   | succ j=>
     obtain ⟨m',h4,h5⟩:=ih h3 (j:=j) (by simpa using hj);exact ⟨m',by omega,h5⟩
def IsNds.fNds {m:Nat} {r:LP} (h:IsNds m r) (hm:m<=100000):FNds m r:=by
 obtain ⟨l,e,h1,h2⟩:=h;exact ⟨l,e,by have:=Nd.len_le (a:=l);omega,Nd.goods_fits l h1 Zo,h2⟩
def FNd.le {m m':Nat} {r:List P} (h:FNd m r) (hm:m<=m'):FNd m' r:=let ⟨t,h1,h2,h3⟩:=h;⟨t,h1,h2,Yy h3 hm⟩
def FNds.le {m m':Nat} {r:LP} (h:FNds m r) (hm:m<=m'):FNds m' r:=let ⟨t,h1,h2,h3,h4⟩:=h;⟨t,h1,h2,h3,Yy h4 hm⟩
def FNds.nil:FNds 0 []:=⟨[],rfl,by simp,trivial,Yc _⟩
def FNds.len {m:Nat} {rs:LP} (h:FNds m rs):rs.length<=100000:=by
 obtain ⟨l,rfl,a,b⟩:=h;rw [Nd.encs_length];exact a
def FNds.snoc {m m':Nat} {r:List P} {rs:LP} (h:FNds m rs) (h':FNd m' r) (hl:rs.length<100000):FNds (m+m') (rs++[r]):=by
 obtain ⟨l,rfl,a0,a,b⟩:=h;obtain ⟨t,rfl,c,d⟩:=h';rw [Nd.encs_length] at hl;exact ⟨l++[t],by simp [Nd.encs_app,Nd.encs],by simp;omega,by simp [Nd.fits_app,Nd.fits,a,c],by simp [Nd.szs_app,Nd.szs];omega⟩
def FNds.uncons {m:Nat} {r:List P} {rs:LP} (h:FNds m (r::rs)): ∃m1 m2,m1+m2<=m/\FNd m1 r/\FNds m2 rs:=by
 obtain ⟨l,e,hl,g,hs⟩:=h;cases l with
 | nil=>simp [Nd.encs] at e
 | cons x l=>
   simp only [Nd.encs,Yf] at e;obtain ⟨rfl,rfl⟩:=e;exact ⟨_,_,hs,⟨_,rfl,g.1,Yc _⟩,⟨_,rfl,by simp at hl;omega,g.2,Yc _⟩⟩
def FNds.get {m:Nat} {rs:LP} (h:FNds m rs) {j:Nat} (hj:j<rs.length): ∃m',m'<=m/\FNd m' rs[j]:=by
 induction rs generalizing m j with
 | nil=>simp at hj
 | cons r rs ih=>
   obtain ⟨m1,m2,h1,h2,h3⟩:=h.uncons;cases j with
   | zero=>exact ⟨m1,by omega,h2⟩
   | succ j=>
     obtain ⟨m',h4,h5⟩:=ih h3 (j:=j) (by simpa using hj);exact ⟨m',by omega,h5⟩
def FTy.form {m:Nat} {r:List P} (h:FTy m r): ∃(k n:Int) (s:LN) (a:LP),r=[.i k,.str s,.i n,.sl 4 a]:=by
 obtain ⟨⟨k,s,n,args⟩,rfl,_⟩:=h;exact ⟨_,_,_,_,rfl⟩
def FNd.form {m:Nat} {r:List P} (h:FNd m r): ∃(o n k m z:Int) (s u:LN) (a t l:LP),r=[.i o,.str s,.i n,.i k,.str u,.i m,.sl 4 a,.sl 4 t,.sl 10 l,.i z]:=by
 obtain ⟨⟨op,s,n,⟨k,s2,m,args⟩,ts,ls,a⟩,rfl,_⟩:=h;exact ⟨_,_,_,_,_,_,_,_,_,_,rfl⟩
def FTy.inv {mm:Nat} {k n:Int} {s:LN} {a:LP} (h:FTy mm [.i k,.str s,.i n,.sl 4 a]): ∃m1,m1+1<=mm/\Sn s/\FTys m1 a/\((k=5∨k=8∨k=11)->0<a.length):=by
 obtain ⟨⟨k',s',n',args'⟩,e,⟨g1,g2,g3,g4⟩,h3⟩:=h;simp only [Ty.enc,Yf,P.int.injEq,P.str.injEq,P.sl.injEq,true_and,and_true] at e;obtain ⟨rfl,rfl,rfl,rfl⟩:=e;refine ⟨_,?_,g1,⟨_,rfl,g2,g4,Yc _⟩,fun h=>?_⟩
 ·have:1+Ty.szs args'<=mm:=h3;omega
 ·rw [Ty.encs_length];exact List.length_pos_iff.2 (g3 h)
def FTy.mk {m:Nat} {k n:Int} {s:LN} {a:LP} (hs:Sn s) (ha:FTys m a) (hk:(k=5∨k=8∨k=11)->0<a.length):FTy (m+1) [.i k,.str s,.i n,.sl 4 a]:=by
 obtain ⟨l,rfl,h0,h1,h2⟩:=ha;refine ⟨.mk k s n l,rfl,⟨hs,h0,fun h e=>?_,h1⟩,?_⟩
 ·have:=hk h;rw [e] at this;simp [Ty.encs] at this
 ·show 1+Ty.szs l<=m+1;omega
def FNd.inv {mm:Nat} {o n k m z:Int} {s u:LN} {a t l:LP} (h:FNd mm [.i o,.str s,.i n,.i k,.str u,.i m,.sl 4 a,.sl 4 t,.sl 10 l,.i z]): ∃m1 m2 m3,m1+m2+m3+1<=mm/\Sn s/\FTy m1 [.i k,.str u,.i m,.sl 4 a]/\FTys m2 t/\FNds m3 l/\(o=15->0<l.length)/\(o=12->n=2->0<t.length):=by
 obtain ⟨⟨op',s',n',⟨k',s2',m',args'⟩,ts',ls',a'⟩,e,⟨g1,g2,g3,g4,g5,g6,g7,g8⟩,h3⟩:=h;simp only [Nd.enc,Yf,P.int.injEq,P.str.injEq,P.sl.injEq,true_and,and_true] at e;obtain ⟨rfl,rfl,rfl,rfl,rfl,rfl,rfl,rfl,rfl,rfl⟩:=e;refine ⟨_,_,_,?_,g1,⟨_,rfl,g2,Yc _⟩,⟨_,rfl,g3,g4,Yc _⟩,⟨_,rfl,g5,g6,Yc _⟩,fun h=>?_,fun h h'=>?_⟩
 ·have:1+Ty.sz (.mk k' s2' m' args')+Ty.szs ts'+Nd.szs ls'<=mm:=h3;omega
 ·rw [Nd.encs_length];exact List.length_pos_iff.2 (g7 h)
 ·rw [Ty.encs_length];exact List.length_pos_iff.2 (g8 h h')
def FNd.mk {m1 m2 m3:Nat} {o n k m z:Int} {s u:LN} {a t l:LP} (hs:Sn s) (ht:FTy m1 [.i k,.str u,.i m,.sl 4 a]) (hts:FTys m2 t) (hl:FNds m3 l) (h1:o=15->0<l.length) (h2:o=12->n=2->0<t.length):
  FNd (m1+m2+m3+1) [.i o,.str s,.i n,.i k,.str u,.i m,.sl 4 a,.sl 4 t,.sl 10 l,.i z]:=by
 obtain ⟨t',e,c,d⟩:=ht;obtain ⟨l,rfl,b0,a1,b1⟩:=hl;obtain ⟨ts,rfl,c0,a2,b2⟩:=hts;obtain ⟨k',s',n',args'⟩:=t';simp only [Ty.enc,Yf,P.int.injEq,P.str.injEq,P.sl.injEq,true_and,and_true] at e;obtain ⟨rfl,rfl,rfl,rfl⟩:=e;refine ⟨.mk o s n (.mk k' s' n' args') ts l z,rfl,⟨hs,c,c0,a2,b0,a1,fun h e=>?_,fun h h' e=>?_⟩,?_⟩
 ·have:=h1 h;rw [e] at this;simp [Nd.encs] at this
 ·have:=h2 h h';rw [e] at this;simp [Ty.encs] at this
 ·show 1+Ty.sz _+Ty.szs ts+Nd.szs l<=_;omega
def Sn.nil:Sn []:=⟨by simp,by simp [Byt]⟩
def FTy.zero:FTy 1 [.i 0,.str [],.i 0,.sl 4 []]:=FTy.mk Sn.nil FTys.nil Zo
def FNd.zero:FNd 2 [.i 0,.str [],.i 0,.i 0,.str [],.i 0,.sl 4 [],.sl 4 [],.sl 10 [],.i 0]:=FNd.mk Sn.nil FTy.zero FTys.nil FNds.nil Zo Zo
def strs (l:List LN):LP:=l.map fun x=>[.str x]
def Zay (l:List Bool):LP:=l.map fun x=>[.bool x]
@[simp] def aW (ty:List LN) (ki ar:List Int) (mo:List Bool) (pr:List LN) (hi:List Bool):A:= .agg [.l 1 (strs ty),.l 1 (ZaX ki),.l 1 (ZaX ar),.l 1 (Zay mo),.l 1 (strs pr),.l 1 (Zay hi)]
@[simp] def aU (ty:List LN) (ki ar:List Int) (mo:List Bool) (pr:List LN) (hi:List Bool):A:= .agg [.tip 1 (strs ty),.tip 1 (ZaX ki),.tip 1 (ZaX ar),.tip 1 (Zay mo),.tip 1 (strs pr),.tip 1 (Zay hi)]
def Sns (l:List LN):Prop:=l.length<=100000/\ ∀x∈l,Sn x
def Sns.nil:Sns []:=⟨by simp,by simp⟩
def Sns.snoc {l:List LN} {s:LN} (h:Sns l) (hs:Sn s) (hl:l.length<100000):Sns (l++[s]):=⟨by simp;omega,fun x hx=>by
 rcases List.mem_append.1 hx with hx|hx
 ·exact h.2 x hx
 ·simp at hx;rw [hx];exact hs⟩
def Sns.get {l:List LN} (h:Sns l) {j:Nat} (hj:j<l.length):Sn l[j]:=h.2 _ (Yl hj)
def Zbh {l:List LN} {j:Nat} (hj:j<l.length):(strs l)[j]? =some [.str l[j]]:=by simp [strs,hj]
@[simp] def ZCb {l:List LN}:(strs l).length=l.length:=by simp [strs]
@[simp] def Zsu {l:List Bool}:(Zay l).length=l.length:=by simp [Zay]
def ZaZ {l:List Int} {j:Nat} (hj:j<l.length):(ZaX l)[j]? =some [.i l[j]]:=by simp [ZaX,hj]
def ZaM {l:List Bool} {j:Nat} (hj:j<l.length):(Zay l)[j]? =some [.bool l[j]]:=by simp [Zay,hj]
def Zaz {l:List LN} {s:LN}:strs l++[[.str s]]=strs (l++[s]):=by simp [strs]
def ZfQ {l:List Bool} {s:Bool}:Zay l++[[.bool s]]=Zay (l++[s]):=by simp [Zay]
def Zeh (H:Has S) {l:List LN} {s:LN} (hl:l.length<=100000) (hQ: ∀j:Int,j= -1->s∉l->Q [pi j] []) (hQ2: ∀j:Nat,j<l.length->l[j]? =some s->Q [pi j] []):Gives S Zct [.one (.l 1 (strs l)),ps s] [] Q:=
 Zmk H (by unfold ZeA;omega) fun j hj=>by
  rcases hj with ⟨h1,h2⟩|⟨i,rfl,h2⟩
  ·exact hQ j h1 h2
  ·exact hQ2 i (by rcases Yt i l.length with h|h;exact h;rw [List.getElem?_eq_none h] at h2;cases h2) h2
def Zq2 (H:Has S): ∀(nn m:Nat) (k n:Int) (s:LN) (a:LP) (Q:QF),m<nn->FTy m [.i k,.str s,.i n,.sl 4 a]->Q [aT k s n a] []->Gives S Zbv [aT k s n a] [] Q
 | 0=>fun _ _ _ _ _ _ h=>absurd h (YI _)
 | nn+1=>by
   intro m k n s a Q hm ht hQ;obtain ⟨m1,g1,g2,g3,g4⟩:=ht.inv;have g5:=g3.len;refine .code H.ZsF rfl ?_;simp(disch:=omega)[ZhV];refine .code H.Zms rfl ?_;simp(disch:=omega)[Zfd];refine Lp.rule (fun (j:Nat)=>[(0,.a (.one (.l 4 a))),(3,.a (.one (.tip 4 (a.take j)))),(4,.a (pi j)),o9]) (fun j=>j<=a.length) (fun j=>a.length-j) (a₀:=0) Zs (Yd _) ?_;intro j k1;by_cases hj:j<a.length
   · obtain ⟨m',q1,q2⟩:=g3.get hj;obtain ⟨k2,n2,s2,a2,e⟩:=q2.form;rw [e] at q2;simp(disch:=omega)[e];refine Zq2 H nn m' _ _ _ _ _ Zo q2 ?_;simp(disch:=omega);exact RdN.mk (j+1) (by rw [Ym,Ya hj,e];rfl) hj Zo
   · have e:a.take j=a:=Yg Zo;simp(disch:=omega)[e];exact hQ
def Zb3 (H:Has S) {m:Nat} {k n:Int} {s:LN} {a:LP} (ht:FTy m [.i k,.str s,.i n,.sl 4 a]) (hQ:Q [aT k s n a] []):Gives S Zbv [aT k s n a] [] Q:=Zq2 H (m+1) m _ _ _ _ _ (Yz _) ht hQ
def Zon (H:Has S) {m:Nat} {a:LP} (g3:FTys m a) (hQ:Q [.one (.l 4 a)] []):Gives S ZdZ [.one (.l 4 a)] [] Q:=by
 have g5:=g3.len;refine .code H.Zms rfl ?_;simp(disch:=omega)[Zfd];refine Lp.rule (fun (j:Nat)=>[(0,.a (.one (.l 4 a))),(3,.a (.one (.tip 4 (a.take j)))),(4,.a (pi j)),o9]) (fun j=>j<=a.length) (fun j=>a.length-j) (a₀:=0) Zs (Yd _) ?_;intro j k1;by_cases hj:j<a.length
 ·obtain ⟨m',q1,q2⟩:=g3.get hj;obtain ⟨k2,n2,s2,a2,e⟩:=q2.form;rw [e] at q2;simp(disch:=omega)[e];refine Zb3 H q2 ?_;simp(disch:=omega);exact RdN.mk (j+1) (by rw [Ym,Ya hj,e];rfl) hj Zo
 ·have e:a.take j=a:=Yg Zo;simp(disch:=omega)[e];exact hQ
def ZqW (H:Has S): ∀(nn mm:Nat) (o n k m z:Int) (s u:LN) (a t l:LP) (Q:QF),mm<nn->FNd mm [.i o,.str s,.i n,.i k,.str u,.i m,.sl 4 a,.sl 4 t,.sl 10 l,.i z]->Q [aN o s n k u m a t l z] []->Gives S ZcQ [aN o s n k u m a t l z] [] Q
 | 0=>fun _ _ _ _ _ _ _ _ _ _ _ _ h=>absurd h (YI _)
 | nn+1=>by
   intro mm o n k m z s u a t l Q hm ht hQ;obtain ⟨m1,m2,m3,g1,g2,g3,g4,g5,_⟩:=ht.inv;have g6:=g5.len;refine .code H.Zr4 rfl ?_;simp(disch:=omega)[ZhL];refine Zb3 H g3 ?_;simp(disch:=omega);refine Zon H g4 ?_;simp(disch:=omega);refine .code H.Zrw rfl ?_;simp(disch:=omega)[Zg1];refine Lp.rule (fun (j:Nat)=>[(0,.a (.one (.l 10 l))),(3,.a (.one (.tip 10 (l.take j)))),(4,.a (pi j)),o9]) (fun j=>j<=l.length) (fun j=>l.length-j) (a₀:=0) Zs (Yd _) ?_;intro j k1;by_cases hj:j<l.length
   · obtain ⟨m',q1,q2⟩:=g5.get hj;obtain ⟨o2,n2,k2,m2,z2,s2,u2,a2,t2,l2,e⟩:=q2.form;rw [e] at q2;simp(disch:=omega)[e];refine ZqW H nn m' _ _ _ _ _ _ _ _ _ _ _ Zo q2 ?_;simp(disch:=omega);exact RdN.mk (j+1) (by rw [Ym,Ya hj,e];rfl) hj Zo
   · have e:l.take j=l:=Yg Zo;simp(disch:=omega)[e];exact hQ
def Zlx (H:Has S) {mm:Nat} {o n k m z:Int} {s u:LN} {a t l:LP} (ht:FNd mm [.i o,.str s,.i n,.i k,.str u,.i m,.sl 4 a,.sl 4 t,.sl 10 l,.i z]) (hQ:Q [aN o s n k u m a t l z] []):Gives S ZcQ [aN o s n k u m a t l z] [] Q:=ZqW H (mm+1) mm _ _ _ _ _ _ _ _ _ _ _ (Yz _) ht hQ
def Zig {F:ZaQ} {s n:Nat} (h:n<ZeA):ZaI F (.makeSlice s) [.a (.one (.i 0)),.a (.one (.i n))]=some [.a (.one (.tip s []))]:=by
 rw [Zg2,if_pos ⟨Int.natCast_nonneg n,Int.ofNat_lt.2 h⟩]
def ZhD (H:Has S) {l:List LN} (hl:l.length<=100000) (hQ:Q [.one (.l 1 (strs l))] []):Gives S ZdM [.one (.l 1 (strs l))] [] Q:=by
 have hb:=fun F=> @Zig F 1 l.length (by rw [ZwO];omega);refine .code H.Zok rfl ?_;simp(disch:=omega)[Zfk,hb, -Zg2];refine Lp.rule (fun (j:Nat)=>[(0,.a (.one (.l 1 (strs l)))),(3,.a (.one (.tip 1 (strs (l.take j))))),(4,.a (pi j)),o9]) (fun j=>j<=l.length) (fun j=>l.length-j) (a₀:=0) (by simp [strs]) (Yd _) ?_;intro j k1;by_cases hj:j<l.length
 ·have e:=Zbh hj;simp(disch:=omega)[e];exact RdN.mk (j+1) (by rw [Ym,Ya hj];simp only [strs,YC,Option.toList,Yp,List.map_nil,qU,jU]) hj Zo
 ·have e:l.take j=l:=Yg Zo;simp(disch:=omega)[e];exact hQ
def Zsl (H:Has S) {o:Int} (hQ: ∀x:Int,Q [pi x] []):Gives S Zeq [pi o] [] Q:=by
 refine .code H.ZvG rfl ?_;simp(disch:=omega)[Zkp]
 repeat' (first
    | exact hQ _
    | (refine Tcs (fun hc=>?_) (fun hc=>?_)<;>simp(disch:=omega)[hc]<;>try simp only [bz] at hc)
    | (exfalso;omega))
def ZeR (H:Has S) {s:LN} (hQ: ∀x:Bool,Q [pb x] []):Gives S ZcW [ps s] [] Q:=by
 refine .code H.ZsH rfl ?_;simp(disch:=omega)[ZhK]
 repeat' (first
    | exact hQ _
    | (refine Tcs (fun hc=>?_) (fun hc=>?_)<;>simp(disch:=omega)[hc]<;>try simp only [bz] at hc)
    | (exfalso;omega))
def ZaH (H:Has S) {e:Int} {o n k m z:Int} {s u:LN} {a t l:LP} (hQ: ∀x:Int,Q [.agg [.i e,.i x]] []):Gives S Zat [pi e,aN o s n k u m a t l z] [] Q:=by
 refine .code H.Zwk rfl ?_;simp(disch:=omega)[ZlG];exact hQ _
def Zk1 (H:Has S) (hQ:Q [aT 7 [83,101,108,102] 0 []] []):Gives S Zg4 [] [] Q:=by
 refine .code H.ZAI rfl ?_;simp(disch:=omega)[Zpu];exact hQ
def ZeD (H:Has S) {m:Nat} {l:LP} {k:Nat} (hl:FNds m l) (hk:k<l.length) (hQ: ∀x:Bool,Q [pb x] []):Gives S Zcf [.one (.l 10 l),pi k] [] Q:=by
 have g:=hl.len;obtain ⟨m1,_,q1⟩:=hl.get hk;obtain ⟨o,n,k2,m2,z,s,u,a,t,l2,e⟩:=q1.form;refine .code H.ZtO rfl ?_;simp(disch:=omega)[Zi5];refine Lp.rule (fun (j:Nat)=>[(0,.a (.one (.l 10 l))),(1,.a (pi k)),(5,.a (pi j)),o9]) (fun j=>j<=k) (fun j=>k-j) (a₀:=0) Zs (Yd _) ?_;intro j k1;by_cases hj:j<k
 ·obtain ⟨m',_,q2⟩:=hl.get (j:=j) Zo;obtain ⟨o',n',k2',m2',z',s',u',a',t',l2',e'⟩:=q2.form;simp(disch:=omega)[e,e']
  repeat' (first
      | exact hQ _
      | exact RdN.mk (j+1) rfl hj Zo
      | (refine Tcs (fun hc=>?_) (fun hc=>?_)<;>simp(disch:=omega)[hc,e,e']<;>try simp only [bz] at hc)
      | (exfalso;omega))
 ·simp(disch:=omega);exact hQ _
def ofR (op:Int) (l:LP):LP:=l.filter fun r=>match r with| .int _ x::_=>x==op|_=>false
def Zvz {op:Int} {a b:LP}:ofR op (a++b)=ofR op a++ofR op b:=by simp [ofR]
def Zv1 (H:Has S) {m:Nat} {l:LP} {op:Int} (hl:FNds m l) (hQ: ∀(rs:LP),rs=ofR op l->FNds m rs->(∀(j:Nat) (hj:j<rs.length),∃r,rs[j]= .i op::r)->Q [.one (.l 10 rs)] []):Gives S ZbM [.one (.l 10 l),pi op] [] Q:=by
 have g:=hl.len;obtain ⟨l0,rfl,h1,h2,h3⟩:=hl;refine .code H.ZDo rfl ?_;simp(disch:=omega)[Zs9];refine Lp.rule (fun (b:LP×Nat)=>[(0,.a (.one (.l 10 (Nd.encs l0)))),(1,.a (pi op)),(5,.a (.one (.tip 10 b.1))),(6,.a (pi b.2)),o9])
  (fun b=>b.2<=l0.length/\FNds (Nd.szs (l0.take b.2)) b.1/\(b.1.length<=b.2/\b.1=ofR op ((Nd.encs l0).take b.2))/\ ∀(j:Nat) (hj:j<b.1.length),∃r,b.1[j]= .i op::r) (fun b=>l0.length-b.2) (a₀:=([],0)) Zs ⟨Yd _,FNds.nil.le (Yd _),⟨Yc _,rfl⟩,fun j hj=>by simp at hj⟩ ?_
 rintro ⟨rs,j⟩ ⟨k1,k2,⟨k3,k5⟩,k4⟩;dsimp only at k1 k2 k3 k4 k5;have e0:=Nd.encs_length (a:=l0);by_cases hj:j<l0.length
 ·have hx:Nd.fits [l0[j]]:=by
   have:l0=l0.take j++(l0[j]::l0.drop (j+1)):=by rw [<-qZ hj,List.take_append_drop]
   rw [this,Nd.fits_app] at h2;exact ⟨h2.2.1,trivial⟩
  have hs:Nd.szs (l0.take (j+1))=Nd.szs (l0.take j)+Nd.sz l0[j]:=by rw [Ym,Ya hj,Nd.szs_app];simp [Nd.szs]
  have he:(Nd.encs l0)[j]? =some (Nd.enc l0[j]):=by simp [Nd.encs_map,hj]
  have q2:FNd (Nd.sz l0[j]) (Nd.enc l0[j]):=⟨_,rfl,hx.1,Yc _⟩
  obtain ⟨o2,n2,k2',m2,z2,s2,u2,a2,t2,l2,e⟩:=q2.form;rw [e] at q2 he;have he2:(Nd.encs l0)[j]'(by omega)=[.i o2,.str s2,.i n2,.i k2',.str u2,.i m2,.sl 4 a2,.sl 4 t2,.sl 10 l2,.i z2]:=by
   rw [Ya Zo] at he;exact Option.some.inj he
  have k6: ∀r,(Nd.encs l0).take (j+1)=(Nd.encs l0).take j++r->True:=fun _ _=>trivial;have k7:(Nd.encs l0).take (j+1)=(Nd.encs l0).take j++[(Nd.encs l0)[j]'(by omega)]:=by rw [Ym,Ya Zo];rfl
  by_cases ho:o2=op
  ·subst ho;simp(disch:=omega)[he2];exact RdN.mk (_,j+1) rfl ⟨hj,(k2.snoc q2 Zo).le dO,⟨by simp;omega,by dsimp only;rw [k7,Zvz,he2,<-k5];simp [ofR]⟩,fun i hi=>by
    dsimp only at hi⊢;rcases Yt i rs.length with hh|hh
    ·rw [List.getElem_append_left hh];exact k4 i hh
    ·have:i=rs.length:=by simp at hi;omega
     subst this;simp⟩ dO
  ·simp(disch:=omega)[he2,ho];exact RdN.mk (rs,j+1) rfl ⟨hj,k2.le dO,⟨dO,by dsimp only;rw [k7,Zvz,he2,<-k5];simp [ofR,ho]⟩,k4⟩ dO
 ·have:j=l0.length:=by omega
  subst this;simp(disch:=omega);exact hQ _ (by rw [k5,Yg Zo]) (k2.le (by simpa using h3)) k4
def Zfs (H:Has S) {m:Nat} {l:LP} {op:Int} (hl:FNds m l) (hQ: ∀(rs:LP),FNds m rs->(∀(j:Nat) (hj:j<rs.length),∃r,rs[j]= .i op::r)->Q [.one (.l 10 rs)] []):Gives S ZbM [.one (.l 10 l),pi op] [] Q:=
 Zv1 H hl fun rs _ h1 h2=>hQ rs h1 h2
end Go.Am.Fe
end
section
namespace Go.Am.Fe
variable {S:SF} {Q:QF}
attribute [local simp] ZbO if_pos if_neg decide_eq_true decide_eq_false Yi Yj ZgF
structure Nm (ty:List LN) (ki ar:List Int) (mo:List Bool) (pr:List LN) (hi:List Bool):Prop where
 t:Sns ty
 p:Sns pr
 k:ki.length=ty.length
 a:ar.length=ty.length
 m:mo.length=ty.length
 h:hi.length=pr.length
def Zum (H:Has S) {ty pr:List LN} {ki ar:List Int} {mo hi:List Bool} (hW:Nm ty ki ar mo pr hi) {k n:Int} {s:LN} {a:LP} (hQ: ∀x:Bool,Q [pb x] []):Gives S ZdO [aW ty ki ar mo pr hi,aT k s n a] [] Q:=by
 have w1:=hW.t.1;have w2:=hW.p.1;have w3:=hW.k;have w4:=hW.a;have w5:=hW.m;have w6:=hW.h;refine .code H.ZnZ rfl ?_;simp(disch:=omega)[Zfv]
 repeat' (first
    | exact hQ _
    | (refine Zeh H Zo (fun x hx hx2=>?_) (fun x hx hx2=>?_)<;>(try subst hx)<;>simp(disch:=omega)[Zbh,ZaZ,ZaM])
    | (refine Tcs (fun hc=>?_) (fun hc=>?_)<;>simp(disch:=omega)[hc,Zbh,ZaZ,ZaM]<;>try simp only [bz] at hc)
    | (exfalso;omega))
def Zso (H:Has S) {ty pr:List LN} {ki ar:List Int} {mo hi:List Bool} (hW:Nm ty ki ar mo pr hi) {k n:Int} {s:LN} {a:LP} (hQ: ∀x:Bool,Q [pb x] []):Gives S Zdk [aW ty ki ar mo pr hi,aT k s n a] [] Q:=by
 have w1:=hW.t.1;have w2:=hW.p.1;have w3:=hW.k;have w4:=hW.a;have w5:=hW.m;have w6:=hW.h;refine .code H.ZmV rfl ?_;simp(disch:=omega)[ZeC]
 repeat' (first
    | exact hQ _
    | (refine Zeh H Zo (fun x hx hx2=>?_) (fun x hx hx2=>?_)<;>(try subst hx)<;>simp(disch:=omega)[Zbh,ZaZ,ZaM])
    | (refine Tcs (fun hc=>?_) (fun hc=>?_)<;>simp(disch:=omega)[hc,Zbh,ZaZ,ZaM]<;>try simp only [bz] at hc)
    | (exfalso;omega))
def Zi0 (H:Has S): ∀(nn mm:Nat) (k n:Int) (s:LN) (a:LP) (Q:QF),mm<nn->FTy mm (rT k s n a)->(∀x:Bool,Q [pb x] [])->Gives S Zb2 [aT k s n a] [] Q
 | 0=>fun _ _ _ _ _ _ h=>absurd h (YI _)
 | nn+1=>by
   intro mm k n s a Q hm ht hQ;have ih:=Zi0 H nn;obtain ⟨m1,g1,g2,g3,g4⟩:=ht.inv;have g5:=g3.len;refine .code H.Zq7 rfl ?_;simp(disch:=omega)[ZgI]
   repeat' (first
     | exact hQ _
     | (refine ih _ _ _ _ _ _ Zo q2 (fun x=>?_);cases x<;>simp(disch:=omega))
     | exact RdN.mk (j+1) rfl hj Zo
     | (refine Lp.rule (fun (j:Nat)=>[fR 1,(3,.a (pi j)),o9,(10001,.a (aT k s n a))]) (fun j=>j<=a.length) (fun j=>a.length-j) (a₀:=0) Zs (Yd _) ?_
        intro j k1;by_cases hj:j<a.length;rotate_left;simp(disch:=omega);rotate_left;obtain ⟨m',q1,q2⟩:=g3.get hj;obtain ⟨k2,n2,s2,a2,e⟩:=q2.form;rw [e] at q2;simp(disch:=omega)[e])
     | (refine Tcs (fun hc=>?_) (fun hc=>?_)<;>simp(disch:=omega)[hc]<;>try simp only [bz] at hc)
     | (exfalso;omega))
def ZhQ (H:Has S) {mm:Nat} {k n:Int} {s:LN} {a:LP} (ht:FTy mm (rT k s n a)) (hQ: ∀x:Bool,Q [pb x] []):Gives S Zb2 [aT k s n a] [] Q:=Zi0 H (mm+1) mm _ _ _ _ _ (Yz _) ht hQ
def Zn6 (H:Has S): ∀(nn mm:Nat) (k n:Int) (s:LN) (a:LP) (Q:QF),mm<nn->FTy mm (rT k s n a)->(∀x:Bool,Q [pb x] [])->Gives S Zhd [aT k s n a] [] Q
 | 0=>fun _ _ _ _ _ _ h=>absurd h (YI _)
 | nn+1=>by
   intro mm k n s a Q hm ht hQ;have ih:=Zn6 H nn;obtain ⟨m1,g1,g2,g3,g4⟩:=ht.inv;have g5:=g3.len;refine .code H.Zyt rfl ?_;simp(disch:=omega)[Znc]
   repeat' (first
     | exact hQ _
     | (refine ih _ _ _ _ _ _ Zo q2 (fun x=>?_);cases x<;>simp(disch:=omega))
     | exact RdN.mk (j+1) rfl hj Zo
     | (refine Lp.rule (fun (j:Nat)=>[fR 1,(3,.a (pi j)),o9,(10001,.a (aT k s n a))]) (fun j=>j<=a.length) (fun j=>a.length-j) (a₀:=0) Zs (Yd _) ?_
        intro j k1;by_cases hj:j<a.length;rotate_left;simp(disch:=omega);rotate_left;obtain ⟨m',q1,q2⟩:=g3.get hj;obtain ⟨k2,n2,s2,a2,e⟩:=q2.form;rw [e] at q2;simp(disch:=omega)[e])
     | (refine Tcs (fun hc=>?_) (fun hc=>?_)<;>simp(disch:=omega)[hc]<;>try simp only [bz] at hc)
     | (exfalso;omega))
def ZwA (H:Has S) {mm:Nat} {k n:Int} {s:LN} {a:LP} (ht:FTy mm (rT k s n a)) (hQ: ∀x:Bool,Q [pb x] []):Gives S Zhd [aT k s n a] [] Q:=Zn6 H (mm+1) mm _ _ _ _ _ (Yz _) ht hQ
def ZiW (H:Has S): ∀(nn mm:Nat) (k n:Int) (s:LN) (a:LP) (Q:QF),mm<nn->FTy mm (rT k s n a)->(∀x:Bool,Q [pb x] [])->Gives S Zdr [aT k s n a] [] Q
 | 0=>fun _ _ _ _ _ _ h=>absurd h (YI _)
 | nn+1=>by
   intro mm k n s a Q hm ht hQ;have ih:=ZiW H nn;obtain ⟨m1,g1,g2,g3,g4⟩:=ht.inv;have g5:=g3.len;refine .code H.ZsE rfl ?_;simp(disch:=omega)[Zia]
   repeat' (first
     | exact hQ _
     | (refine ih _ _ _ _ _ _ Zo q2 (fun x=>?_);cases x<;>simp(disch:=omega))
     | exact RdN.mk (j+1) rfl hj Zo
     | (refine Lp.rule (fun (j:Nat)=>[fR 1,(3,.a (pi j)),o9,(10001,.a (aT k s n a))]) (fun j=>j<=a.length) (fun j=>a.length-j) (a₀:=0) Zs (Yd _) ?_
        intro j k1;by_cases hj:j<a.length;rotate_left;simp(disch:=omega);rotate_left;obtain ⟨m',q1,q2⟩:=g3.get hj;obtain ⟨k2,n2,s2,a2,e⟩:=q2.form;rw [e] at q2;simp(disch:=omega)[e])
     | (refine Tcs (fun hc=>?_) (fun hc=>?_)<;>simp(disch:=omega)[hc]<;>try simp only [bz] at hc)
     | (exfalso;omega))
def ZpI (H:Has S) {mm:Nat} {k n:Int} {s:LN} {a:LP} (ht:FTy mm (rT k s n a)) (hQ: ∀x:Bool,Q [pb x] []):Gives S Zdr [aT k s n a] [] Q:=ZiW H (mm+1) mm _ _ _ _ _ (Yz _) ht hQ
def Zkz (H:Has S) {ty pr:List LN} {ki ar:List Int} {mo hi:List Bool} (hW:Nm ty ki ar mo pr hi): ∀(nn mm:Nat) (k n:Int) (s:LN) (a:LP) (whole:Bool) (Q:QF),mm<nn->FTy mm (rT k s n a)->(∀x:Bool,Q [pb x] [])->Gives S ZbW [aW ty ki ar mo pr hi,aT k s n a,pb whole] [] Q
 | 0=>fun _ _ _ _ _ _ _ h=>absurd h (YI _)
 | nn+1=>by
   intro mm k n s a whole Q hm ht hQ;have ih:=Zkz H hW nn;obtain ⟨m1,g1,g2,g3,g4⟩:=ht.inv;have g5:=g3.len;refine .code H.Zm6 rfl ?_;simp(disch:=omega)[Zey]
   repeat' (first
     | exact hQ _
     | (refine ih _ _ _ _ _ _ _ Zo q2 (fun x=>?_);cases x<;>simp(disch:=omega))
     | exact RdN.mk (j+1) rfl hj Zo
     | (refine Lp.rule (fun (j:Nat)=>[fR 3,fR 4,(7,.a (pi j)),o9,(10003,.a (aW ty ki ar mo pr hi)),(10004,.a (aT k s n a))]) (fun j=>j<=a.length) (fun j=>a.length-j) (a₀:=0) Zs (Yd _) ?_
        intro j k1;by_cases hj:j<a.length;rotate_left;simp(disch:=omega);rotate_left;obtain ⟨m',q1,q2⟩:=g3.get hj;obtain ⟨k2,n2,s2,a2,e⟩:=q2.form;rw [e] at q2;simp(disch:=omega)[e])
     | (refine Zso H hW (fun x=>?_);cases x<;>simp(disch:=omega))
     | (refine Tcs (fun hc=>?_) (fun hc=>?_)<;>simp(disch:=omega)[hc]<;>try simp only [bz] at hc)
     | (exfalso;omega))
def Zsc (H:Has S) {ty pr:List LN} {ki ar:List Int} {mo hi:List Bool} (hW:Nm ty ki ar mo pr hi) {mm:Nat} {k n:Int} {s:LN} {a:LP} {whole:Bool} (ht:FTy mm (rT k s n a)) (hQ: ∀x:Bool,Q [pb x] []):Gives S ZbW [aW ty ki ar mo pr hi,aT k s n a,pb whole] [] Q:=Zkz H hW (mm+1) mm _ _ _ _ _ _ (Yz _) ht hQ
def ZhF (H:Has S): ∀(nn mm:Nat) (k n:Int) (s:LN) (a:LP) (mo:Int) (Q:QF),mm<nn->FTy mm (rT k s n a)->(∀x:Int,Q [pi x] [])->Gives S ZcY [aT k s n a,pi mo] [] Q
 | 0=>fun _ _ _ _ _ _ _ h=>absurd h (YI _)
 | nn+1=>by
   intro mm k n s a mo Q hm ht hQ;have ih:=ZhF H nn;obtain ⟨m1,g1,g2,g3,g4⟩:=ht.inv;have g5:=g3.len;refine .code H.Zrs rfl ?_;simp(disch:=omega)[ZgV];refine Lp.rule (fun (b:Int×Nat)=>[(1,.a (pi mo)),fR 2,(5,.a (pi b.1)),(6,.a (pi b.2)),o9,(10002,.a (aT k s n a))]) (fun b=>b.2<=a.length) (fun b=>a.length-b.2) (a₀:=(1,0)) Zs (Yd _) ?_;rintro ⟨c,j⟩ k1;dsimp only at k1;by_cases hj:j<a.length
   · obtain ⟨m',q1,q2⟩:=g3.get hj;obtain ⟨k2,n2,s2,a2,e⟩:=q2.form;rw [e] at q2;simp(disch:=omega)[e]
     repeat' (first
       | exact hQ _
       | exact RdN.mk (_,j+1) rfl hj dO
       | (refine ih _ _ _ _ _ _ _ Zo q2 (fun x=>?_);simp(disch:=omega))
       | (refine Tcs (fun hc=>?_) (fun hc=>?_)<;>simp(disch:=omega)[hc,e]<;>try simp only [bz] at hc)
       | (exfalso;omega))
   · simp(disch:=omega);exact hQ _
def ZoP (H:Has S) {mm:Nat} {k n:Int} {s:LN} {a:LP} {mo:Int} (ht:FTy mm (rT k s n a)) (hQ: ∀x:Int,Q [pi x] []):Gives S ZcY [aT k s n a,pi mo] [] Q:=ZhF H (mm+1) mm _ _ _ _ _ _ (Yz _) ht hQ
def ZpS (H:Has S) {mm:Nat} {k n:Int} {s:LN} {a:LP} (ht:FTy mm (rT k s n a)) (hQ: ∀x:Bool,Q [pb x] []):Gives S Zim [aT k s n a] [] Q:=by
 refine .code H.ZyP rfl ?_;simp(disch:=omega)[Zni];refine Lp.rule (fun (b:Int×LN×Int×LP×Nat×Bool)=>[fR 1,(3,.a (pi b.2.2.2.2.1)),o9,(10001,.a (aT b.1 b.2.1 b.2.2.1 b.2.2.2.1))])
  (fun b=>b.2.2.2.2.1<=7/\ ∃m,FTy m (rT b.1 b.2.1 b.2.2.1 b.2.2.2.1)) (fun b=>7-b.2.2.2.2.1) (a₀:=(k,s,n,a,1,false)) Zs ⟨dO,mm,ht⟩ ?_
 rintro ⟨k,s,n,a,j,_⟩ ⟨k1,m,k2⟩;dsimp only at k1 k2;obtain ⟨m1,g1,g2,g3,g4⟩:=k2.inv;have g5:=g3.len;by_cases h8:k=8
 ·subst h8;have g6:=g4 Zd;obtain ⟨m',q1,q2⟩:=g3.get (j:=0) g6;obtain ⟨k2,n2,s2,a2,e⟩:=q2.form;rw [e] at q2;simp(disch:=omega)[e]
  repeat' (first
      | exact hQ _
      | exact RdN.mk (_,_,_,_,j+1,false) rfl ⟨dO,m',q2⟩ dO
      | (refine Tcs (fun hc=>?_) (fun hc=>?_)<;>simp(disch:=omega)[hc,e]<;>try simp only [bz] at hc)
      | (exfalso;omega))
 ·simp(disch:=omega)[h8]
  repeat' (first
      | exact hQ _
      | (refine Tcs (fun hc=>?_) (fun hc=>?_)<;>simp(disch:=omega)[hc,h8]<;>try simp only [bz] at hc)
      | (exfalso;omega))
def Ztd (H:Has S) {mm:Nat} {o n k m z:Int} {s u:LN} {a t l:LP} (ht:FNd mm (rN o s n k u m a t l z)) (hQ: ∀x:Bool,Q [pb x] []):Gives S Zhg [aN o s n k u m a t l z] [] Q:=by
 obtain ⟨m1,m2,m3,g1,g2,g3,g4,g5,_⟩:=ht.inv;refine .code H.ZtN rfl ?_;simp(disch:=omega)[ZjC];refine Zfs H g5 fun q hq ho=>?_;have g6:=hq.len;by_cases hz:q.length=0
 ·simp(disch:=omega)[hz,jC hz];exact hQ _
 ·have hne: ¬q=[]:=fun h=>hz (by rw [h];rfl);obtain ⟨m',q1,q2⟩:=hq.get (j:=0) Zo;obtain ⟨o2,n2,k2,m2',z2,s2,u2,a2,t2,l2,e⟩:=q2.form;simp(disch:=omega)[e,hne]
  repeat' (first
      | exact hQ _
      | (refine Tcs (fun hc=>?_) (fun hc=>?_)<;>simp(disch:=omega)[hc,e]<;>try simp only [bz] at hc)
      | (exfalso;omega))
def Zoq (H:Has S) {mm:Nat} {o n k m z:Int} {s u:LN} {a t l:LP} (ht:FNd mm (rN o s n k u m a t l z))
  (hQ:Q [aN 0 [] 0 0 [] 0 [] [] [] 0,pb false] [])
  (hQ2: ∀(mm:Nat) (o2 n2 k2 m2 z2:Int) (s2 u2:LN) (a2 t2 l2:LP),FNd mm (rN o2 s2 n2 k2 u2 m2 a2 t2 l2 z2)->Q [aN o2 s2 n2 k2 u2 m2 a2 t2 l2 z2,pb true] []):Gives S ZfN [aN o s n k u m a t l z] [] Q:=by
 obtain ⟨m1,m2,m3,g1,g2,g3,g4,g5,_⟩:=ht.inv;refine .code H.ZtZ rfl ?_;simp(disch:=omega)[Zi2];refine Zfs H g5 fun q hq ho=>?_;have g6:=hq.len;by_cases hz:q.length=0
 ·simp(disch:=omega)[hz,jC hz];exact hQ
 ·have hne: ¬q=[]:=fun h=>hz (by rw [h];rfl);obtain ⟨m',q1,q2⟩:=hq.get (j:=0) Zo;obtain ⟨o2,n2,k2,m2',z2,s2,u2,a2,t2,l2,e⟩:=q2.form;rw [e] at q2;simp(disch:=omega)[e,hne];exact hQ2 _ _ _ _ _ _ _ _ _ _ _ q2
def Zpd (H:Has S) {mm:Nat} {o n k m z:Int} {s u:LN} {a t l:LP} (ht:FNd mm (rN o s n k u m a t l z))
  (hQ2: ∀(mm:Nat) (o2 n2 k2 m2 z2:Int) (s2 u2:LN) (a2 t2 l2:LP),FNd mm (rN o2 s2 n2 k2 u2 m2 a2 t2 l2 z2)->Q [aN o2 s2 n2 k2 u2 m2 a2 t2 l2 z2] []):Gives S Zil [aN o s n k u m a t l z] [] Q:=by
 obtain ⟨m1,m2,m3,g1,g2,g3,g4,g5,_⟩:=ht.inv;refine .code H.ZxA rfl ?_;simp(disch:=omega)[ZnB];refine Zfs H g5 fun q hq ho=>?_;have g6:=hq.len;by_cases hz:q.length=0
 ·simp(disch:=omega)[hz,jC hz];exact hQ2 _ _ _ _ _ _ _ _ _ _ _ FNd.zero
 ·have hne: ¬q=[]:=fun h=>hz (by rw [h];rfl);obtain ⟨m',q1,q2⟩:=hq.get (j:=0) Zo;obtain ⟨o2,n2,k2,m2',z2,s2,u2,a2,t2,l2,e⟩:=q2.form;rw [e] at q2;simp(disch:=omega)[e,hne];refine Zlx H q2 ?_;simp(disch:=omega);exact hQ2 _ _ _ _ _ _ _ _ _ _ _ q2
def Zld (H:Has S) {ty pr:List LN} {ki ar:List Int} {mo hi:List Bool} (hW:Nm ty ki ar mo pr hi) {s:LN} (hQ: ∀x:Bool,Q [pb x] []):Gives S ZbS [aW ty ki ar mo pr hi,ps s] [] Q:=by
 have w1:=hW.t.1;have w2:=hW.p.1;have w3:=hW.k;have w4:=hW.a;have w5:=hW.m;have w6:=hW.h;refine .code H.ZlI rfl ?_;simp(disch:=omega)[ZdI]
 repeat' (first
    | exact hQ _
    | (refine Zeh H Zo (fun x hx hx2=>?_) (fun x hx hx2=>?_)<;>(try subst hx)<;>simp(disch:=omega)[Zbh,ZaZ,ZaM])
    | (refine Tcs (fun hc=>?_) (fun hc=>?_)<;>simp(disch:=omega)[hc,Zbh,ZaZ,ZaM]<;>try simp only [bz] at hc)
    | (exfalso;omega))
def ZmE (H:Has S) {ty pr:List LN} {ki ar:List Int} {mo hi:List Bool} (hW:Nm ty ki ar mo pr hi) {m k:Nat} {l:LP} (hl:FNds m l) (hk:k<l.length) (hQ: ∀x:Bool,Q [pb x] []):Gives S Zca [aW ty ki ar mo pr hi,.one (.l 10 l),pi k] [] Q:=by
 have w1:=hW.t.1;have w2:=hW.p.1;have w3:=hW.k;have w4:=hW.a;have w5:=hW.m;have w6:=hW.h;have g0:=hl.len;obtain ⟨m1,_,q1⟩:=hl.get hk;obtain ⟨o,n,k2,m2,z,s,u,a,t,l2,e⟩:=q1.form;refine .code H.ZlR rfl ?_;simp(disch:=omega)[Zef,e]
 repeat' (first
    | exact hQ _
    | (refine ZeR H (fun x=>?_);cases x<;>simp(disch:=omega)[e])
    | (refine Zld H hW (fun x=>?_);cases x<;>simp(disch:=omega)[e])
    | (refine ZeD H hl hk (fun x=>?_);cases x<;>simp(disch:=omega)[e])
    | (refine Tcs (fun hc=>?_) (fun hc=>?_)<;>simp(disch:=omega)[hc,e]<;>try simp only [bz] at hc)
    | (exfalso;omega))
def Zj3 (H:Has S) {ty pr:List LN} {ki ar:List Int} {mo hi:List Bool} (hW:Nm ty ki ar mo pr hi) {gs:List LN} {ms:Nat} {ks ns:Int} {ss:LN} {as:LP} (hgs:Sns gs) (hself:FTy ms (rT ks ss ns as)): ∀(nn mm:Nat) (k n:Int) (s:LN) (a:LP) (Q:QF),mm<nn->FTy mm (rT k s n a)->(∀(m':Nat) (k' n' e:Int) (s':LN) (a':LP),FTy m' (rT k' s' n' a')->Q [aT k' s' n' a',pi e] [])->Gives S ZbE [aW ty ki ar mo pr hi,aT k s n a,.agg [.l 1 (strs gs),.i ks,.s ss,.i ns,.l 4 as]] [] Q
 | 0=>fun _ _ _ _ _ _ h=>absurd h (YI _)
 | nn+1=>by
   intro mm k n s a Q hm ht hQ;have ih:=Zj3 H hW hgs hself nn;obtain ⟨m1,g1,g2,g3,g4⟩:=ht.inv;have g5:=g3.len;have g6:=hgs.1;have w1:=hW.t.1;have w2:=hW.p.1;have w3:=hW.k;have w4:=hW.a;have w5:=hW.m;have w6:=hW.h;refine .code H.ZlT rfl ?_;simp(disch:=omega)[Zeg];refine Lp.rule (fun (b:LP×Nat)=>[fR 3,fR 4,fR 5,fR 6,fR 8,(9,.a (pi b.2)),o9,
       (10003,.a (aW ty ki ar mo pr hi)),(10004,.a (aT k s n a)),(10005,.a (.agg [.l 1 (strs gs),.i ks,.s ss,.i ns,.l 4 as])),(10006,.a (.agg [.i 0,.s [],.i 0,.tip 4 []])),(10008,.a (.agg [.i k,.s s,.i n,.tip 4 b.1]))])
     (fun b=>b.2<=a.length/\b.1.length=b.2/\ ∃m,FTys m b.1) (fun b=>a.length-b.2) (a₀:=([],0)) Zs ⟨Yd _,rfl,_,FTys.nil⟩ ?_
   rintro ⟨r,j⟩ ⟨k0,k1,mr,k2⟩;dsimp only at k0 k1 k2;have k3:=k2.len;by_cases hj:j<a.length
   · obtain ⟨m',q1,q2⟩:=g3.get hj;obtain ⟨kk,nk,sk,ak,e⟩:=q2.form;rw [e] at q2;simp(disch:=omega)[e];refine ih _ _ _ _ _ _ Zo q2 fun m2 k4 n4 e4 s4 a4 h4=>?_;simp(disch:=omega)
     repeat' (first
       | exact hQ _ _ _ _ _ _ FTy.zero
       | exact hQ _ _ _ _ _ _ (FTy.mk g2 FTys.nil Zo)
       | exact hQ _ _ _ _ _ _ (FTy.mk g2 k2 (fun h=>by have:=g4 h;omega))
       | exact hQ _ _ _ _ _ _ hself
       | exact RdN.mk (_,j+1) rfl ⟨hj,by simp;omega,_,k2.snoc h4 Zo⟩ dO
       | (refine Tcs (fun hc=>?_) (fun hc=>?_)<;>simp(disch:=omega)[hc]<;>try simp only [bz] at hc)
       | (exfalso;omega))
   · have k6:j=a.length:=by omega
     by_cases hp:0<r.length
     · obtain ⟨m',q1,q2⟩:=k2.get (j:=0) hp;obtain ⟨kk,nk,sk,ak,e⟩:=q2.form;rw [e] at q2;simp(disch:=omega)[e]
       repeat' (first
         | exact hQ _ _ _ _ _ _ FTy.zero
         | exact hQ _ _ _ _ _ _ (FTy.mk g2 FTys.nil Zo)
         | exact hQ _ _ _ _ _ _ (FTy.mk g2 k2 (fun h=>by have:=g4 h;omega))
         | exact hQ _ _ _ _ _ _ hself
         | (refine Zeh H Zo (fun x hx hx2=>?_) (fun x hx hx2=>?_)<;>(try subst hx)<;>simp(disch:=omega)[Zbh,ZaZ,ZaM,e])
         | (refine Zum H hW (fun x=>?_);cases x<;>simp(disch:=omega)[e])
         | (refine ZeR H (fun x=>?_);cases x<;>simp(disch:=omega)[e])
         | (refine Zb3 H hself ?_;simp(disch:=omega))
         | (refine Tcs (fun hc=>?_) (fun hc=>?_)<;>simp(disch:=omega)[hc,Zbh,ZaZ,ZaM,e]<;>try simp only [bz] at hc)
         | (exfalso;omega))
     · simp(disch:=omega)
       repeat' (first
         | exact hQ _ _ _ _ _ _ FTy.zero
         | exact hQ _ _ _ _ _ _ (FTy.mk g2 FTys.nil Zo)
         | exact hQ _ _ _ _ _ _ (FTy.mk g2 k2 (fun h=>by have:=g4 h;omega))
         | exact hQ _ _ _ _ _ _ hself
         | (refine Zeh H Zo (fun x hx hx2=>?_) (fun x hx hx2=>?_)<;>(try subst hx)<;>simp(disch:=omega)[Zbh,ZaZ,ZaM])
         | (refine ZeR H (fun x=>?_);cases x<;>simp(disch:=omega))
         | (refine Zb3 H hself ?_;simp(disch:=omega))
         | (refine Tcs (fun hc=>?_) (fun hc=>?_)<;>simp(disch:=omega)[hc,Zbh,ZaZ,ZaM]<;>try simp only [bz] at hc)
         | (exfalso;omega))
def Zri (H:Has S) {ty pr:List LN} {ki ar:List Int} {mo hi:List Bool} (hW:Nm ty ki ar mo pr hi) {gs:List LN} {ms:Nat} {ks ns:Int} {ss:LN} {as:LP} (hgs:Sns gs) (hself:FTy ms (rT ks ss ns as)) {mm:Nat} {k n:Int} {s:LN} {a:LP} (ht:FTy mm (rT k s n a)) (hQ:(∀(m':Nat) (k' n' e:Int) (s':LN) (a':LP),FTy m' (rT k' s' n' a')->Q [aT k' s' n' a',pi e] [])):Gives S ZbE [aW ty ki ar mo pr hi,aT k s n a,.agg [.l 1 (strs gs),.i ks,.s ss,.i ns,.l 4 as]] [] Q:=Zj3 H hW hgs hself (mm+1) mm _ _ _ _ _ (Yz _) ht hQ
def Zc9 (H:Has S) {ty pr:List LN} {ki ar:List Int} {mo hi:List Bool} (hW:Nm ty ki ar mo pr hi) {gs:List LN} {ms:Nat} {ks ns:Int} {ss:LN} {as:LP} (hgs:Sns gs) (hself:FTy ms (rT ks ss ns as)) {mm:Nat} {k n:Int} {s:LN} {a:LP} {whole:Bool} (ht:FTy mm (rT k s n a)) (hQ:(∀(m':Nat) (k' n' e:Int) (s':LN) (a':LP),FTy m' (rT k' s' n' a')->Q [aT k' s' n' a',pi e] [])):Gives S ZaS [aW ty ki ar mo pr hi,aT k s n a,.agg [.l 1 (strs gs),.i ks,.s ss,.i ns,.l 4 as],pb whole] [] Q:=by
 refine .code H.Zoz rfl ?_;simp(disch:=omega)[Zfy];refine Zri H hW hgs hself ht fun m2 k4 n4 e4 s4 a4 h4=>?_;simp(disch:=omega)
 repeat' (first
    | exact hQ _ _ _ _ _ _ FTy.zero
    | exact hQ _ _ _ _ _ _ h4
    | (refine ZoP H h4 (fun x=>?_);simp(disch:=omega))
    | (refine ZwA H h4 (fun x=>?_);cases x<;>simp(disch:=omega))
    | (refine Zsc H hW h4 (fun x=>?_);cases x<;>simp(disch:=omega))
    | (refine Tcs (fun hc=>?_) (fun hc=>?_)<;>simp(disch:=omega)[hc]<;>try simp only [bz] at hc)
    | (exfalso;omega))
def RowsOf (R:List P->Prop) (l:LP):Prop:=l.length<=100000/\ ∀r∈l,R r
def RowsOf.nil {R:List P->Prop}:RowsOf R []:=⟨by simp,by simp⟩
def RowsOf.snoc {R:List P->Prop} {l:LP} {r:List P} (h:RowsOf R l) (hr:R r) (hl:l.length<100000):RowsOf R (l++[r]):=⟨by simp;omega,fun x hx=>by
 rcases List.mem_append.1 hx with hx|hx
 ·exact h.2 x hx
 ·simp at hx;rw [hx];exact hr⟩
def RowsOf.get {R:List P->Prop} {l:LP} (h:RowsOf R l) {j:Nat} (hj:j<l.length):R l[j]:=h.2 _ (Yl hj)
def RowsOf.len {R:List P->Prop} {l:LP} (h:RowsOf R l):l.length<=100000:=h.1
def Sxs (l:List LN):Prop:=l.length<=100000/\ ∀x∈l,Sx x
def PaR (r:List P):Prop:= ∃(m:Nat) (s:LN) (o k n:Int) (u:LN) (a:LP),r=[.str s,.i o,.i k,.str u,.i n,.sl 4 a]/\Sn s/\FTy m (rT k u n a)
def MeR (r:List P):Prop:= ∃(m1 m2:Nat) (s:LN) (ps:LP) (k1 n1 k2 n2:Int) (s1 s2:LN) (a1 a2:LP),r=[.str s,.sl 6 ps,.i k1,.str s1,.i n1,.sl 4 a1,.i k2,.str s2,.i n2,.sl 4 a2]/\Sn s/\RowsOf PaR ps/\
 FTy m1 (rT k1 s1 n1 a1)/\FTy m2 (rT k2 s2 n2 a2)
def AsR (r:List P):Prop:= ∃(s:LN) (bs:List LN),r=[.str s,.sl 1 (strs bs)]/\Sn s/\Sns bs
def PrR (r:List P):Prop:= ∃(s:LN) (as ms:LP),r=[.str s,.sl 2 as,.sl 10 ms]/\Sn s/\RowsOf AsR as/\RowsOf MeR ms
def FiR (r:List P):Prop:= ∃(m:Nat) (s:LN) (k n:Int) (u:LN) (a:LP) (b:Bool),r=[.str s,.i k,.str u,.i n,.sl 4 a,.bool b]/\Sn s/\FTy m (rT k u n a)
def CaR (r:List P):Prop:= ∃(m:Nat) (s:LN) (ts:LP) (b:Bool),r=[.str s,.sl 4 ts,.bool b]/\Sn s/\FTys m ts
def NoR (r:List P):Prop:= ∃(mm:Nat) (s:LN) (kd:Int) (gs:List LN) (b1 b2:Bool) (fs cs:LP) (o n k m z:Int) (s1 u:LN) (a t l:LP),
 r=[.str s,.i kd,.sl 1 (strs gs),.bool b1,.bool b2,.sl 6 fs,.sl 3 cs,.i o,.str s1,.i n,.i k,.str u,.i m,.sl 4 a,.sl 4 t,.sl 10 l,.i z]/\Sn s/\Sns gs/\RowsOf FiR fs/\RowsOf CaR cs/\FNd mm (rN o s1 n k u m a t l z)
def ReR (r:List P):Prop:= ∃(m1 m2:Nat) (o:Int) (s:LN) (k1 n1 k2 n2:Int) (s1 s2:LN) (a1 a2:LP),r=[.i o,.i k1,.str s1,.i n1,.sl 4 a1,.str s,.i k2,.str s2,.i n2,.sl 4 a2]/\Sn s/\
 FTy m1 (rT k1 s1 n1 a1)/\FTy m2 (rT k2 s2 n2 a2)
def CoR (r:List P):Prop:= ∃(m1 m2:Nat) (s:LN) (k n:Int) (u:LN) (a:LP) (gs:List LN) (qs ts:LP) (fs:List LN),r=[.str s,.i k,.str u,.i n,.sl 4 a,.sl 1 (strs gs),.sl 10 qs,.sl 4 ts,.sl 1 (strs fs)]/\Sn s/\
 FTy m1 (rT k u n a)/\Sns gs/\RowsOf ReR qs/\FTys m2 ts/\Sxs fs
def FuR (r:List P):Prop:= ∃(mm m1 m2:Nat) (s:LN) (gs:List LN) (qs ps:LP) (k1 n1 k2 n2:Int) (s1 s2:LN) (a1 a2:LP) (o n k m z:Int) (s3 u:LN) (a t l:LP),
 r=[.str s,.sl 1 (strs gs),.sl 10 qs,.sl 6 ps,.i k1,.str s1,.i n1,.sl 4 a1,.i k2,.str s2,.i n2,.sl 4 a2,.i o,.str s3,.i n,.i k,.str u,.i m,.sl 4 a,.sl 4 t,.sl 10 l,.i z]/\Sx s/\Sns gs/\RowsOf ReR qs/\RowsOf PaR ps/\
 FTy m1 (rT k1 s1 n1 a1)/\FTy m2 (rT k2 s2 n2 a2)/\FNd mm (rN o s3 n k u m a t l z)
def ZoK (H:Has S) {ty pr:List LN} {ki ar:List Int} {mo hi:List Bool} (hW:Nm ty ki ar mo pr hi) {gs:List LN} {ms:Nat} {ks ns:Int} {ss:LN} {as:LP} (hgs:Sns gs) (hself:FTy ms (rT ks ss ns as)) {mm:Nat} {o n k m z:Int} {s u:LN} {a t l:LP} {mv:Int} (ht:FNd mm (rN o s n k u m a t l z)) (hQ:(∀(ps:LP) (m1 m2:Nat) (k1 n1 k2 n2:Int) (s1 s2:LN) (a1 a2:LP) (c x:Int),RowsOf PaR ps->(c=0->ps.length=(ofR 10 l).length)->FTy m1 (rT k1 s1 n1 a1)->FTy m2 (rT k2 s2 n2 a2)->Q [.agg [.l 6 ps,.i k1,.s s1,.i n1,.l 4 a1,.i k2,.s s2,.i n2,.l 4 a2],.agg [.i c,.i x]] [])):Gives S Zcy [aW ty ki ar mo pr hi,aN o s n k u m a t l z,.agg [.l 1 (strs gs),.i ks,.s ss,.i ns,.l 4 as],pi mv] [] Q:=by
 obtain ⟨m1,m2,m3,g1,g2,g3,g4,g5,_⟩:=ht.inv;have ht2:=ht;refine .code H.Znd rfl ?_;simp(disch:=omega)[ZeT];refine Zv1 H g5 fun q hqe hq ho=>?_;have g6:=hq.len;simp(disch:=omega);refine Lp.rule (fun (b:LP×Nat)=>[(3,.a (pi mv)),fR 4,fR 5,fR 6,fR 8,fR 9,fR 10,(11,.a (.one (.l 10 q))),(12,.a (pi b.2)),o9,(10004,.a (aW ty ki ar mo pr hi)),(10005,.a (aN o s n k u m a t l z)),(10006,.a (.agg [.l 1 (strs gs),.i ks,.s ss,.i ns,.l 4 as])),
   (10008,.a (.agg [.tip 6 [],.i 0,.s [],.i 0,.tip 4 [],.i 0,.s [],.i 0,.tip 4 []])),(10009,.a (a00)),(10010,.a (.agg [.tip 6 b.1,.i 0,.s [],.i 0,.tip 4 [],.i 0,.s [],.i 0,.tip 4 []]))])
   (fun b=>b.2<=q.length/\b.1.length=b.2/\RowsOf PaR b.1) (fun b=>q.length-b.2) (a₀:=([],0)) Zs ⟨Yd _,rfl,RowsOf.nil⟩ ?_
 rintro ⟨ps,j⟩ ⟨k0,k1,k2⟩;dsimp only at k0 k1 k2;by_cases hj:j<q.length
 ·obtain ⟨m',q1,q2⟩:=hq.get hj;obtain ⟨o2,n2,k2',m2',z2,s2,u2,a2,t2,l2,e⟩:=q2.form;rw [e] at q2;obtain ⟨_,_,_,_,e2,e3,_⟩:=q2.inv;simp(disch:=omega)[e];refine Zc9 H hW hgs hself e3 fun m9 k9 n9 e9 s9 a9 h9=>?_;simp(disch:=omega)[e];refine Zaf (fun hc=>?_) (fun hc=>?_)<;>simp(disch:=omega)[hc,e]<;>try simp only [bz] at hc
  · refine ZaH H fun x=>?_;simp(disch:=omega);exact hQ _ _ _ _ _ _ _ _ _ _ _ _ _ RowsOf.nil (fun h=>absurd h hc) FTy.zero FTy.zero
  · exact RdN.mk (_,j+1) rfl ⟨hj,by simp;omega,k2.snoc ⟨_,_,_,_,_,_,_,rfl,e2,h9⟩ Zo⟩ dO
 ·have kl:ps.length=(ofR 10 l).length:=by rw [<-hqe];omega
  simp(disch:=omega);have tail: ∀(m8:Nat) (k8 n8:Int) (s8:LN) (a8:LP),FTy m8 (rT k8 s8 n8 a8)->True:=fun _ _ _ _ _ _=>trivial;refine Zoq H ht2 ?_ (fun mm2 o2 n2 k2' m2' z2 s2 u2 a2 t2 l2 h2=>?_)
  · simp(disch:=omega);refine Zc9 H hW hgs hself g3 fun m9 k9 n9 e9 s9 a9 h9=>?_;simp(disch:=omega);refine Zaf (fun hc=>?_) (fun hc=>?_)<;>simp(disch:=omega)[hc]<;>try simp only [bz] at hc
    ·refine ZaH H fun x=>?_;simp(disch:=omega);exact hQ _ _ _ _ _ _ _ _ _ _ _ _ _ RowsOf.nil (fun h=>absurd h hc) FTy.zero FTy.zero
    ·exact hQ _ _ _ _ _ _ _ _ _ _ _ _ _ k2 (fun _=>kl) h9 FTy.zero
  · obtain ⟨_,_,_,_,e2,e3,_⟩:=h2.inv;simp(disch:=omega);refine Zc9 H hW hgs hself e3 fun m9 k9 n9 e9 s9 a9 h9=>?_;simp(disch:=omega);refine Zaf (fun hc=>?_) (fun hc=>?_)<;>simp(disch:=omega)[hc]<;>try simp only [bz] at hc
    ·refine ZaH H fun x=>?_;simp(disch:=omega);exact hQ _ _ _ _ _ _ _ _ _ _ _ _ _ RowsOf.nil (fun h=>absurd h hc) FTy.zero FTy.zero
    ·refine Zc9 H hW hgs hself g3 fun m8 k8 n8 e8 s8 a8 h8=>?_;simp(disch:=omega);refine Zaf (fun hc=>?_) (fun hc=>?_)<;>simp(disch:=omega)[hc]<;>try simp only [bz] at hc
     ·refine ZaH H fun x=>?_;simp(disch:=omega);exact hQ _ _ _ _ _ _ _ _ _ _ _ _ _ RowsOf.nil (fun h=>absurd h hc) FTy.zero FTy.zero
     ·exact hQ _ _ _ _ _ _ _ _ _ _ _ _ _ k2 (fun _=>kl) h8 h9
def ZoA (H:Has S) {ty pr:List LN} {ki ar:List Int} {mo hi:List Bool} (hW:Nm ty ki ar mo pr hi) {gs:List LN} {ms:Nat} {ks ns:Int} {ss:LN} {as:LP} (hgs:Sns gs) (hself:FTy ms (rT ks ss ns as)) {mm:Nat} {o n k m z:Int} {s u:LN} {a t l:LP} {mv:Int} (ht:FNd mm (rN o s n k u m a t l z)) (hQ:(∀(ps:LP) (m1 m2:Nat) (k1 n1 k2 n2:Int) (s1 s2:LN) (a1 a2:LP) (c x:Int),RowsOf PaR ps->(c=0->ps.length=(ofR 10 l).length)->FTy m1 (rT k1 s1 n1 a1)->FTy m2 (rT k2 s2 n2 a2)->Q [.agg [.l 6 ps,.i k1,.s s1,.i n1,.l 4 a1,.i k2,.s s2,.i n2,.l 4 a2],.agg [.i c,.i x]] [])):Gives S Zcq [aW ty ki ar mo pr hi,aN o s n k u m a t l z,.agg [.l 1 (strs gs),.i ks,.s ss,.i ns,.l 4 as],pi mv] [] Q:=by
 obtain ⟨m1,m2,m3,g1,g2,g3,g4,g5,_⟩:=ht.inv;have ht2:=ht;refine .code H.ZmR rfl ?_;simp(disch:=omega)[ZeI];refine Zfs H g5 fun q hq ho=>?_;have g6:=hq.len;simp(disch:=omega)
 repeat' (first
   | exact hQ _ _ _ _ _ _ _ _ _ _ _ _ _ RowsOf.nil Zo FTy.zero FTy.zero
   | exact RdN.mk (j+1) rfl hj Zo
   | (refine ZaH H (fun x=>?_);simp(disch:=omega))
   | (refine Zfs H g5 (fun q3 hq3 ho3=>?_);have g9:=hq3.len;simp(disch:=omega))
   | (refine ZeD H hq Zo (fun x=>?_);cases x<;>simp(disch:=omega)[e])
   | (refine ZoK H hW hgs hself ht2 (fun ps m1 m2 k1 n1 k2 n2 s1 s2 a1 a2 c x b1 b2 b3 b4=>?_);simp(disch:=omega))
   | exact hQ _ _ _ _ _ _ _ _ _ _ _ _ _ b1 b2 b3 b4
   | (refine Lp.rule (fun (j:Nat)=>[(3,.a (pi mv)),fR 4,fR 5,fR 6,fR 8,fR 9,(10,.a (.one (.l 10 q))),(11,.a (pi j)),o9,(10004,.a (aW ty ki ar mo pr hi)),(10005,.a (aN o s n k u m a t l z)),(10006,.a (.agg [.l 1 (strs gs),.i ks,.s ss,.i ns,.l 4 as])),(10008,.a (.agg [.tip 6 [],.i 0,.s [],.i 0,.tip 4 [],.i 0,.s [],.i 0,.tip 4 []])),(10009,.a (a00))]) (fun j=>j<=q.length) (fun j=>q.length-j) (a₀:=0) Zs (Yd _) ?_
      intro j k1;by_cases hj:j<q.length;rotate_left;simp(disch:=omega);rotate_left;obtain ⟨m',q1,q2⟩:=hq.get hj;obtain ⟨o2,n2,k2',m2',z2,s2,u2,a2,t2,l2,e⟩:=q2.form;rw [e] at q2;simp(disch:=omega)[e])
   | (refine Tcs (fun hc=>?_) (fun hc=>?_)<;>simp(disch:=omega)[hc]<;>try simp only [bz] at hc)
   | (exfalso;omega))
end Go.Am.Fe
end
