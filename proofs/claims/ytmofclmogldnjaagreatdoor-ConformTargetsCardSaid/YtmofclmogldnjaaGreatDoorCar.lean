/- Part. -/
import Derived.Test.YtmofclmogldnjaaGreatDoorCaq
set_option maxRecDepth 999999
set_option maxHeartbeats 0
set_option linter.all false
section
namespace Go.Am.Fe
variable {S:SF} {Q:QF}
attribute [local simp] ZbO if_pos if_neg decide_eq_true decide_eq_false Yi Yj ZgF
def uq:Bool->Nat->LP->C
 | true,s,x=> .tip s x
 | false,s,x=> .uniq s x
@[local simp] def uq_t {s:Nat} {x:LP}:uq true s x= .tip s x:=rfl
@[local simp] def uq_f {s:Nat} {x:LP}:uq false s x= .uniq s x:=rfl
@[local simp] def ZCz {κ s:Nat} {b:Bool} {x:LP}:C.ment κ (uq b s x)=false:=by cases b<;>rfl
def ZrV (H:Has S) {ty pr:List LN} {ki ar:List Int} {mo hi:List Bool} (hW:Nm ty ki ar mo pr hi) {mm:Nat} {o n k m z:Int} {s u:LN} {a t l:LP} {past pro:LP} {mp:Nat} (hpast:FNds mp past) (hpro:RowsOf PrR pro) (hlen:pro.length=pr.length) (ht:FNd mm (rN o s n k u m a t l z)) (hQ:(∀(m1 m2:Nat) (s':LN) (k' n':Int) (u':LN) (a':LP) (gs:List LN) (qs ts:LP) (fs:List LN) (fl:LP) (c x:Int),Sn s'->FTy m1 (rT k' u' n' a')->Sns gs->RowsOf ReR qs->FTys m2 ts->Sxs fs->RowsOf FuR fl->fl.length<=mm->Q [.agg [.s s',.i k',.s u',.i n',.l 4 a',.l 1 (strs gs),.l 10 qs,.l 4 ts,.l 1 (strs fs)],.one (.l 22 fl),.agg [.i c,.i x]] [])):Gives S Zdh [aW ty ki ar mo pr hi,aN o s n k u m a t l z,.one (.l 10 past),.one (.l 3 pro)] [] Q:=by
 obtain ⟨m1,m2,m3,g1,g2,g3,g4,g5,_⟩:=ht.inv;obtain ⟨m4,g6,g7,g8,g9⟩:=g3.inv;have g10:=g8.len;have g11:=hpast.len;have g12:=g2.1;have g13:=g7.1;have w1:=hW.t.1;have w2:=hW.p.1;have w3:=hW.k;have w4:=hW.a;have w5:=hW.m;have w6:=hW.h;refine .code H.ZmU rfl ?_;simp(disch:=omega)[ZeL];refine Zeh H Zo (fun x hx hx2=>?_) (fun i0 hi0 hi02=>?_)
 ·subst hx;simp(disch:=omega);refine ZaH H (fun x=>?_);simp(disch:=omega);exact hQ _ _ _ _ _ _ _ [] _ _ [] _ _ _ Sn.nil FTy.zero Sns.nil RowsOf.nil FTys.nil ⟨by simp,by simp⟩ RowsOf.nil (Yd _)
 simp(disch:=omega);obtain ⟨sp,pa,pm,ep,hp1,hp2,hp3⟩:=hpro.get (j:=i0) Zo;have lpa:=hp2.len;have lpm:=hp3.len;simp(disch:=omega)[ep];have tail: ∀i2:Nat,i2<ty.length->True:=fun _ _=>trivial;refine Zeh H Zo (fun x hx hx2=>?_) (fun i2 hi2 hi22=>?_)
 ·subst hx;simp(disch:=omega)
  repeat' (first
      | exact hQ _ _ _ _ _ _ _ [] _ _ [] _ _ _ Sn.nil FTy.zero Sns.nil RowsOf.nil FTys.nil ⟨by simp,by simp⟩ RowsOf.nil (Yd _)
      | (refine ZaH H (fun x=>?_);simp(disch:=omega))
      | (refine Tcs (fun hc=>?_) (fun hc=>?_)<;>simp(disch:=omega)[hc]<;>try simp only [bz] at hc)
      | (exfalso;omega))
 simp(disch:=omega)[ZaZ]
 repeat' (first
      | exact hQ _ _ _ _ _ _ _ [] _ _ [] _ _ _ Sn.nil FTy.zero Sns.nil RowsOf.nil FTys.nil ⟨by simp,by simp⟩ RowsOf.nil (Yd _)
      | (refine ZaH H (fun x=>?_);simp(disch:=omega))
      | (refine Tcs (fun hc=>?_) (fun hc=>?_)<;>simp(disch:=omega)[hc,ZaZ]<;>try simp only [bz] at hc)
      | (exfalso;omega))
 refine Lp.rule (fun (b:LP×List LN×Nat)=>[(2,.a (.one (.l 10 past))),fR 4,fR 5,fR 8,fR 10,fR 11,fR 13,(14,.a (pi i2)),fR 15,(16,.a (pi b.2.2)),o9,(10004,.a (aW ty ki ar mo pr hi)),(10005,.a (aN o s n k u m a t l z)),(10008,.a (aC0)),(10010,.a (a00)),(10011,.a (aC0)),(10013,.a (.agg [.s sp,.l 2 pa,.l 10 pm])),(10015,.a (.agg [.s s,.i 6,.s u,.i 0,.tip 4 b.1,.tip 1 (strs b.2.1),.tip 10 [],.uniq 4 (List.replicate pa.length [.i 0,.str [],.i 0,.sl 4 []]),.uniq 1 (strs (List.replicate pm.length []))]))]) (fun b=>b.2.2<=a.length/\b.2.1.length<=b.2.2/\Sns b.2.1/\(∃m,FTys m b.1)/\b.1.length<=b.2.2) (fun b=>a.length-b.2.2) (a₀:=([],[],0)) (by simp [strs]) ⟨Yd _,Yc _,Sns.nil,⟨0,FTys.nil⟩,Yc _⟩ ?_;rintro ⟨ta,gs,j⟩ ⟨k0,k1,hgs,⟨mta,hta⟩,k2⟩;dsimp only at k0 k1 hgs hta k2;by_cases hj:j<a.length
 ·obtain ⟨m',q1,q2⟩:=g8.get hj;obtain ⟨k2',n2,s2,a2,e⟩:=q2.form;rw [e] at q2;obtain ⟨m5,f1,f2,f3,f4⟩:=q2.inv;have f5:=f3.len;simp(disch:=omega)[e]
  repeat' (first
      | exact hQ _ _ _ _ _ _ _ [] _ _ [] _ _ _ Sn.nil FTy.zero Sns.nil RowsOf.nil FTys.nil ⟨by simp,by simp⟩ RowsOf.nil (Yd _)
      | (refine ZaH H (fun x=>?_);simp(disch:=omega))
      | exact RdN.mk (_,_,j+1) rfl ⟨hj,by simp;omega,hgs.snoc f2 Zo,⟨_,hta.snoc (FTy.mk f2 FTys.nil Zo) Zo⟩,by simp;omega⟩ dO
      | (refine ZeR H (fun x=>?_);cases x<;>simp(disch:=omega)[e])
      | (refine Zld H hW (fun x=>?_);cases x<;>simp(disch:=omega)[e])
      | (refine Zeh H Zo (fun x hx hx2=>?_) (fun x hx hx2=>?_)<;>(try subst hx)<;>simp(disch:=omega)[e,Zaz])
      | (refine Tcs (fun hc=>?_) (fun hc=>?_)<;>simp(disch:=omega)[hc,e,Zaz]<;>try simp only [bz] at hc)
      | (refine Tcs (fun hc=>?_) (fun hc=>?_)<;>simp(disch:=omega)[hc,Zaz]<;>try simp only [bz] at hc)
      | (exfalso;omega))
 simp(disch:=omega)[ZaM];refine Zaf (fun hc=>?_) (fun hc=>?_)<;>simp(disch:=omega)[hc]<;>try simp only [bz] at hc
 ·refine ZaH H (fun x=>?_);simp(disch:=omega);exact hQ _ _ _ _ _ _ _ [] _ _ [] _ _ _ Sn.nil FTy.zero Sns.nil RowsOf.nil FTys.nil ⟨by simp,by simp⟩ RowsOf.nil (Yd _)
 refine Lp.rule (fun (j:Nat)=>[(2,.a (.one (.l 10 past))),fR 4,fR 5,fR 8,fR 10,fR 11,fR 13,fR 15,(18,.a (pi j)),o9,(10004,.a (aW ty ki ar mo pr hi)),(10005,.a (aN o s n k u m a t l z)),(10008,.a (aC0)),(10010,.a (a00)),(10011,.a (aC0)),(10013,.a (.agg [.s sp,.l 2 pa,.l 10 pm])),(10015,.a (.agg [.s s,.i 6,.s u,.i 0,.tip 4 ta,.tip 1 (strs gs),.tip 10 [],.uniq 4 (List.replicate pa.length [.i 0,.str [],.i 0,.sl 4 []]),.uniq 1 (strs (List.replicate pm.length []))]))]) (fun j=>j<=past.length) (fun j=>past.length-j) (a₀:=0) rfl (Yd _) ?_;intro j k0;by_cases hj:j<past.length
 ·obtain ⟨m',q1,q2⟩:=hpast.get hj;obtain ⟨o2,n2,k2',m2',z2,s2,u2,a2,t2,l2,e⟩:=q2.form;rw [e] at q2;obtain ⟨_,_,_,_,f1,f2,f3,f4,f5,_⟩:=q2.inv;simp(disch:=omega)[e]
  repeat' (first
      | exact hQ _ _ _ _ _ _ _ [] _ _ [] _ _ _ Sn.nil FTy.zero Sns.nil RowsOf.nil FTys.nil ⟨by simp,by simp⟩ RowsOf.nil (Yd _)
      | (refine ZaH H (fun x=>?_);simp(disch:=omega))
      | exact RdN.mk (j+1) rfl hj Zo
      | (refine Tcs (fun hc=>?_) (fun hc=>?_)<;>simp(disch:=omega)[hc,e]<;>try simp only [bz] at hc)
      | (exfalso;omega))
 simp(disch:=omega);refine Zfs H g5 fun q0 hq0 ho0=>?_;have l0:=hq0.len;simp(disch:=omega);have hself:=FTy.mk (k:=6) (n:=0) g7 hta Zo;refine ZgN H hW hgs hself hq0 ho0 fun rs c0 x0 hrs hrs2=>?_;simp(disch:=omega);refine Zaf (fun hc=>?_) (fun hc=>?_)<;>simp(disch:=omega)[hc]<;>try simp only [bz] at hc
 ·exact hQ _ _ _ _ _ _ _ [] _ _ [] _ _ _ Sn.nil FTy.zero Sns.nil RowsOf.nil FTys.nil ⟨by simp,by simp⟩ RowsOf.nil (Yd _)
 have lrs:=hrs.len;refine Zaf (fun hc=>?_) (fun hc=>?_)<;>simp(disch:=omega)[hc]<;>try simp only [bz] at hc
 ·refine ZaH H (fun x=>?_);simp(disch:=omega);exact hQ _ _ _ _ _ _ _ [] _ _ [] _ _ _ Sn.nil FTy.zero Sns.nil RowsOf.nil FTys.nil ⟨by simp,by simp⟩ RowsOf.nil (Yd _)
 refine Zfs H g5 fun q hq ho=>?_;have lq:=hq.len;simp(disch:=omega);refine Lp.rule (fun (b:LP×List Bool×Nat)=>[fR 4,fR 5,fR 8,fR 10,fR 11,fR 13,fR 15,fR 19,(20,.a (.one (.l 10 rs))),(22,.a (.one (.uniq 1 (Zay b.2.1)))),(23,.a (.one (.l 10 q))),(24,.a (pi b.2.2)),o9,(10004,.a (aW ty ki ar mo pr hi)),(10005,.a (aN o s n k u m a t l z)),(10008,.a (aC0)),(10010,.a (a00)),(10011,.a (aC0)),(10013,.a (.agg [.s sp,.l 2 pa,.l 10 pm])),(10015,.a (.agg [.s s,.i 6,.s u,.i 0,.tip 4 ta,.tip 1 (strs gs),.l 10 rs,.uniq 4 b.1,.uniq 1 (strs (List.replicate pm.length []))])),(10019,.a (.agg [.l 1 (strs gs),.i 6,.s u,.i 0,.l 4 ta]))]) (fun b=>b.2.2<=q.length/\b.1.length=pa.length/\b.2.1.length=pa.length/\ ∀r∈b.1,∃m,FTy m r) (fun b=>q.length-b.2.2) (a₀:=((List.replicate pa.length [.i 0,.str [],.i 0,.sl 4 []]),List.replicate pa.length false,0)) (by simp [Zay]) ⟨Yd _,by simp,by simp,fun r hr=>by rw [(List.mem_replicate.1 hr).2];exact ⟨1,FTy.zero⟩⟩ ?_;rintro ⟨ct,th,j⟩ ⟨k0,k4,k5,hct⟩;dsimp only at k0 k4 k5 hct;by_cases hj:j<q.length
 ·obtain ⟨m',q1,q2⟩:=hq.get hj;obtain ⟨o2,n2,k2',m2',z2,s2,u2,a2,t2,l2,e⟩:=q2.form;rw [e] at q2;obtain ⟨_,_,_,_,f1,f2,f3,f4,f5,_⟩:=q2.inv;simp(disch:=omega)[e];refine Lp.rule (fun (b:Int×Nat)=>[fR 4,fR 5,fR 8,fR 10,fR 11,fR 13,fR 15,fR 19,(20,.a (.one (.l 10 rs))),(22,.a (.one (.uniq 1 (Zay th)))),(23,.a (.one (.l 10 q))),(24,.a (pi j)),(25,.a (pi b.1)),(26,.a (pi b.2)),o9,(10004,.a (aW ty ki ar mo pr hi)),(10005,.a (aN o s n k u m a t l z)),(10008,.a (aC0)),(10010,.a (a00)),(10011,.a (aC0)),(10013,.a (.agg [.s sp,.l 2 pa,.l 10 pm])),(10015,.a (.agg [.s s,.i 6,.s u,.i 0,.tip 4 ta,.tip 1 (strs gs),.l 10 rs,.uniq 4 ct,.uniq 1 (strs (List.replicate pm.length []))])),(10019,.a (.agg [.l 1 (strs gs),.i 6,.s u,.i 0,.l 4 ta]))]) (fun b=>b.2<=pa.length/\(b.1= -1∨ ∃i5:Nat,i5<pa.length/\b.1=i5)) (fun b=>pa.length-b.2) (a₀:=(-1,0)) rfl ⟨Yd _,.inl rfl⟩ ?_;rintro ⟨i5,i⟩ ⟨v0,v1⟩;dsimp only at v0 v1;by_cases hi:i<pa.length
  ·obtain ⟨s9,bs9,e9,_,_⟩:=hp2.get hi;simp(disch:=omega)[e,e9]
   repeat' (first
        | exact RdN.mk (_,i+1) rfl ⟨hi,v1⟩ dO
        | exact RdN.mk (_,i+1) rfl ⟨hi,.inr ⟨i,hi,rfl⟩⟩ dO
        | (refine Tcs (fun hc=>?_) (fun hc=>?_)<;>simp(disch:=omega)[hc,e,e9]<;>try simp only [bz] at hc)
        | (exfalso;omega))
  rcases v1 with rfl|⟨i5,hi5,rfl⟩
  ·by_cases hz:0<th.length
   ·simp(disch:=omega)[ZfE,ZfD,e]
    repeat' (first
          | exact hQ _ _ _ _ _ _ _ [] _ _ [] _ _ _ Sn.nil FTy.zero Sns.nil RowsOf.nil FTys.nil ⟨by simp,by simp⟩ RowsOf.nil (Yd _)
          | (refine ZaH H (fun x=>?_);simp(disch:=omega))
          | (refine Tcs (fun hc=>?_) (fun hc=>?_)<;>simp(disch:=omega)[hc,e,ZfE,ZfD]<;>try simp only [bz] at hc)
          | (exfalso;omega))
   ·have:th=[]:=jC Zo;subst this;simp(disch:=omega)[e,Zay]
    repeat' (first
          | exact hQ _ _ _ _ _ _ _ [] _ _ [] _ _ _ Sn.nil FTy.zero Sns.nil RowsOf.nil FTys.nil ⟨by simp,by simp⟩ RowsOf.nil (Yd _)
          | (refine ZaH H (fun x=>?_);simp(disch:=omega))
          | (refine Tcs (fun hc=>?_) (fun hc=>?_)<;>simp(disch:=omega)[hc,e]<;>try simp only [bz] at hc)
          | (exfalso;omega))
  have hz:0<th.length:=by omega
  have hc1:=ZrE (l:=th) (j:=i5) Zo;have hc2:=fun x=>Zs7 (l:=th) (j:=i5) (x:=x) Zo;have h4:Four ct:=fun r hr=>let ⟨_,h⟩:=hct r hr;h.four
  simp(disch:=omega)[ZfE,ZfD,e,hc1];refine Zaf (fun hc=>?_) (fun hc=>?_)<;>simp(disch:=omega)[hc,e]<;>try simp only [bz] at hc
  ·refine ZaH H (fun x=>?_);simp(disch:=omega);exact hQ _ _ _ _ _ _ _ [] _ _ [] _ _ _ Sn.nil FTy.zero Sns.nil RowsOf.nil FTys.nil ⟨by simp,by simp⟩ RowsOf.nil (Yd _)
  refine Zc9 H hW hgs hself f2 fun m9 k9 n9 e9 s9 a9 h9=>?_;simp(disch:=omega)[e];refine Zaf (fun hc=>?_) (fun hc=>?_)<;>simp(disch:=omega)[hc,e]<;>try simp only [bz] at hc
  ·refine ZaH H (fun x=>?_);simp(disch:=omega);exact hQ _ _ _ _ _ _ _ [] _ _ [] _ _ _ Sn.nil FTy.zero Sns.nil RowsOf.nil FTys.nil ⟨by simp,by simp⟩ RowsOf.nil (Yd _)
  have h5:=h4.put (j:=i5) (r:=[.i k9,.str s9,.i n9,.sl 4 a9]) Zo;simp only [Yp,List.map_nil,List.cons_append,YP] at h5;have h6:Four (ct.set i5 [.i k9,.str s9,.i n9,.sl 4 a9]):=h4.set rfl;have hl1:(th.set i5 true).length=th.length:=by simp
  have hl2:(ct.set i5 [.i k9,.str s9,.i n9,.sl 4 a9]).length=ct.length:=by simp
  simp (disch:=first|omega|exact h6) [ZfE,ZAK,e,h4.crow,hc2,ZrD,ZuU,Ztc,h5,ZBo,ZfD];exact RdN.mk (_,_,j+1) rfl ⟨hj,by simp [k4],by simp [k5],fun r hr=>by
   rcases j7 hr with hr|hr
   ·exact hct r hr
   ·rw [hr];exact ⟨_,h9⟩⟩ dO
 simp(disch:=omega);refine Zfs H g5 fun q hq ho=>?_;have lq:=hq.len;have lq2:=hq.len_le;simp(disch:=omega);refine Lp.rule (fun (b:LP×List LN×Bool×Nat)=>[fR 4,fR 5,fR 8,fR 10,fR 11,fR 13,fR 15,fR 19,(20,.a (.one (.l 10 rs))),(22,.a (.one (uq b.2.2.1 1 (Zay th)))),(29,.a (.one (.tip 22 b.1))),(30,.a (.one (.l 10 q))),(31,.a (pi b.2.2.2)),o9,(10004,.a (aW ty ki ar mo pr hi)),(10005,.a (aN o s n k u m a t l z)),(10008,.a (aC0)),(10010,.a (a00)),(10011,.a (aC0)),(10013,.a (.agg [.s sp,.l 2 pa,.l 10 pm])),(10015,.a (.agg [.s s,.i 6,.s u,.i 0,.tip 4 ta,.tip 1 (strs gs),.l 10 rs,uq b.2.2.1 4 ct,.uniq 1 (strs b.2.1)])),(10019,.a (.agg [.l 1 (strs gs),.i 6,.s u,.i 0,.l 4 ta]))]) (fun b=>b.2.2.2<=q.length/\b.2.1.length=pm.length/\(∀x∈b.2.1,Sx x)/\RowsOf FuR b.1/\b.1.length<=b.2.2.2) (fun b=>q.length-b.2.2.2) (a₀:=([],List.replicate pm.length [],false,0)) rfl ⟨Yd _,by simp,fun x hx=>by rw [(List.mem_replicate.1 hx).2];exact Sx.nil,RowsOf.nil,Yc _⟩ ?_;rintro ⟨fl,fs,fg,j⟩ ⟨k0,k6,hfs,hfl,k7⟩;dsimp only at k0 k6 hfs hfl k7;by_cases hj:j<q.length
 ·obtain ⟨m',q1,q2⟩:=hq.get hj;obtain ⟨o2,n2,k2',m2',z2,s2,u2,a2,t2,l2,e⟩:=q2.form;rw [e] at q2;obtain ⟨_,_,_,_,f1,f2,f3,f4,f5,_⟩:=q2.inv;simp(disch:=omega)[e];refine Lp.rule (fun (b:Int×Nat)=>[fR 4,fR 5,fR 8,fR 10,fR 11,fR 13,fR 15,fR 19,(20,.a (.one (.l 10 rs))),(22,.a (.one (uq fg 1 (Zay th)))),(29,.a (.one (.tip 22 fl))),(30,.a (.one (.l 10 q))),(31,.a (pi j)),(32,.a (pi b.1)),(33,.a (pi b.2)),o9,(10004,.a (aW ty ki ar mo pr hi)),(10005,.a (aN o s n k u m a t l z)),(10008,.a (aC0)),(10010,.a (a00)),(10011,.a (aC0)),(10013,.a (.agg [.s sp,.l 2 pa,.l 10 pm])),(10015,.a (.agg [.s s,.i 6,.s u,.i 0,.tip 4 ta,.tip 1 (strs gs),.l 10 rs,uq fg 4 ct,.uniq 1 (strs fs)])),(10019,.a (.agg [.l 1 (strs gs),.i 6,.s u,.i 0,.l 4 ta]))]) (fun b=>b.2<=pm.length/\(b.1= -1∨ ∃i5:Nat,i5<pm.length/\b.1=i5)) (fun b=>pm.length-b.2) (a₀:=(-1,0)) rfl ⟨Yd _,.inl rfl⟩ ?_;rintro ⟨i5,i⟩ ⟨v0,v1⟩;dsimp only at v0 v1;by_cases hi:i<pm.length
  ·obtain ⟨_,_,s9,_,_,_,_,_,_,_,_,_,e9,_⟩:=hp3.get hi;simp(disch:=omega)[e,e9]
   repeat' (first
        | exact RdN.mk (_,i+1) rfl ⟨hi,v1⟩ dO
        | exact RdN.mk (_,i+1) rfl ⟨hi,.inr ⟨i,hi,rfl⟩⟩ dO
        | (refine Tcs (fun hc=>?_) (fun hc=>?_)<;>simp(disch:=omega)[hc,e,e9]<;>try simp only [bz] at hc)
        | (exfalso;omega))
  rcases v1 with rfl|⟨i5,hi5,rfl⟩
  ·by_cases hz:0<fs.length
   ·simp(disch:=omega)[ZpC,ZnI,e]
    repeat' (first
          | exact hQ _ _ _ _ _ _ _ [] _ _ [] _ _ _ Sn.nil FTy.zero Sns.nil RowsOf.nil FTys.nil ⟨by simp,by simp⟩ RowsOf.nil (Yd _)
          | (refine ZaH H (fun x=>?_);simp(disch:=omega))
          | (refine Tcs (fun hc=>?_) (fun hc=>?_)<;>simp(disch:=omega)[hc,e,ZpC,ZnI]<;>try simp only [bz] at hc)
          | (exfalso;omega))
   ·have:fs=[]:=jC Zo;subst this;have hs0:strs []=[]:=rfl;simp(disch:=omega)[e,hs0,Zy4,Zy3]
    repeat' (first
          | exact hQ _ _ _ _ _ _ _ [] _ _ [] _ _ _ Sn.nil FTy.zero Sns.nil RowsOf.nil FTys.nil ⟨by simp,by simp⟩ RowsOf.nil (Yd _)
          | (refine ZaH H (fun x=>?_);simp(disch:=omega))
          | (refine Tcs (fun hc=>?_) (fun hc=>?_)<;>simp(disch:=omega)[hc,e]<;>try simp only [bz] at hc)
          | (exfalso;omega))
  have hz:0<fs.length:=by omega
  have hc1:=Zoh (l:=fs) (j:=i5) Zo;have hc2:=fun x=>ZuZ (l:=fs) (j:=i5) (x:=x) Zo;have hl1:=fun x=>List.length_set (as:=fs) (i:=i5) (a:=x);simp(disch:=omega)[ZpC,ZnI,e,hc1];refine Zaf (fun hc=>?_) (fun hc=>?_)<;>simp(disch:=omega)[hc,e]<;>try simp only [bz] at hc
  ·refine ZaH H (fun x=>?_);simp(disch:=omega);exact hQ _ _ _ _ _ _ _ [] _ _ [] _ _ _ Sn.nil FTy.zero Sns.nil RowsOf.nil FTys.nil ⟨by simp,by simp⟩ RowsOf.nil (Yd _)
  refine ZoA H hW hgs hself q2 fun ps m7 m8 k1 n1 k2 n2 s1 s3 a1 a3 c x b1 b2 b3 b4=>?_;simp(disch:=omega)[e];refine Zaf (fun hc=>?_) (fun hc=>?_)<;>simp(disch:=omega)[hc,e]<;>try simp only [bz] at hc
  ·exact hQ _ _ _ _ _ _ _ [] _ _ [] _ _ _ Sn.nil FTy.zero Sns.nil RowsOf.nil FTys.nil ⟨by simp,by simp⟩ RowsOf.nil (Yd _)
  obtain ⟨my1,my2,sm,mp',kq,nq,ku,nu,sq,su,aq,au,em,hm1,hm2,hm3,hm4⟩:=hp3.get hi5;obtain ⟨mc,hcts⟩:=FTys.of (l:=ct) Zo hct;have hl1':=hl1;have hnm:Sx (u++([58]++(s++([46]++s2)))):=⟨by have:=f1.1;simp;omega,by simp only [ZwG];exact ⟨g7.2,by simp [Byt],g2.2,by simp [Byt],f1.2⟩⟩
  have fin: ∀b:Bool,True:=fun _=>trivial;have f12:=f1.1;simp only [List.cons_append,YP] at hnm;have hc3:((ZnP (fs.set i5 (u++58::(s++46::s2)))).drop i5).take 1=[.p (.str (u++58::(s++46::s2)))]:=by
   rw [Zoh (by rw [hl1];omega)];simp
  have hl3:(fs.set i5 (u++58::(s++46::s2))).length=fs.length:=by simp
  have lth:th.length=pa.length:=k5;cases fg
  ·simp(disch:=omega)[ZCF,em];refine Zsw H hself hp2 hcts Zo Zo b1 b3 b4 hm2 hm3 hm4 fun x=>?_;cases x
   ·simp(disch:=omega)[e];refine ZaH H (fun x=>?_);simp(disch:=omega);exact hQ _ _ _ _ _ _ _ [] _ _ [] _ _ _ Sn.nil FTy.zero Sns.nil RowsOf.nil FTys.nil ⟨by simp,by simp⟩ RowsOf.nil (Yd _)
   simp(disch:=omega)[e,ZpC,ZnI,hc2,hc3];refine ZhD H hgs.1 ?_;simp(disch:=omega);refine Zli H hrs ?_;simp(disch:=omega)[e];refine Zpd H q2 fun mm' o' n' k' m' z' s' u' a' t' l' h9=>?_;simp(disch:=omega)[e,ZnI];exact RdN.mk (_,_,true,j+1) rfl ⟨hj,by rw [hl3];exact k6,fun x hx=>by
    rcases j7 hx with hx|hx
    ·exact hfs x hx
    ·rw [hx];exact hnm,hfl.snoc ⟨_,_,_,_,_,_,_,_,_,_,_,_,_,_,_,_,_,_,_,_,_,_,_,_,_,rfl,hnm,hgs,hrs,b1,b3,b4,h9⟩ Zo,by simp;omega⟩ dO
  ·simp(disch:=omega)[Zx0,em];refine Zsw H hself hp2 hcts Zo Zo b1 b3 b4 hm2 hm3 hm4 fun x=>?_;cases x
   ·simp(disch:=omega)[e];refine ZaH H (fun x=>?_);simp(disch:=omega);exact hQ _ _ _ _ _ _ _ [] _ _ [] _ _ _ Sn.nil FTy.zero Sns.nil RowsOf.nil FTys.nil ⟨by simp,by simp⟩ RowsOf.nil (Yd _)
   simp(disch:=omega)[e,ZpC,ZnI,hc2,hc3];refine ZhD H hgs.1 ?_;simp(disch:=omega);refine Zli H hrs ?_;simp(disch:=omega)[e];refine Zpd H q2 fun mm' o' n' k' m' z' s' u' a' t' l' h9=>?_;simp(disch:=omega)[e,ZnI];exact RdN.mk (_,_,true,j+1) rfl ⟨hj,by rw [hl3];exact k6,fun x hx=>by
    rcases j7 hx with hx|hx
    ·exact hfs x hx
    ·rw [hx];exact hnm,hfl.snoc ⟨_,_,_,_,_,_,_,_,_,_,_,_,_,_,_,_,_,_,_,_,_,_,_,_,_,rfl,hnm,hgs,hrs,b1,b3,b4,h9⟩ Zo,by simp;omega⟩ dO
 obtain ⟨mc,hcts⟩:=FTys.of (l:=ct) Zo hct;simp(disch:=omega);refine Lp.rule (fun (b:Bool×Nat)=>[fR 5,fR 8,fR 10,fR 11,fR 15,(22,.a (.one (uq b.1 1 (Zay th)))),(29,.a (.one (.tip 22 fl))),(36,.a (pi b.2)),o9,(10005,.a (aN o s n k u m a t l z)),(10008,.a (aC0)),(10010,.a (a00)),(10011,.a (aC0)),(10015,.a (.agg [.s s,.i 6,.s u,.i 0,.tip 4 ta,.tip 1 (strs gs),.l 10 rs,uq fg 4 ct,.uniq 1 (strs fs)]))]) (fun b=>b.2<=th.length) (fun b=>th.length-b.2) (a₀:=(fg,0)) rfl (Yd _) ?_;rintro ⟨f2,i⟩ i0;dsimp only at i0;by_cases hj:i<th.length
 ·have hb:=ZaM (l:=th) hj;cases f2<;>simp(disch:=omega)[hb]
  repeat' (first
      | exact hQ _ _ _ _ _ _ _ [] _ _ [] _ _ _ Sn.nil FTy.zero Sns.nil RowsOf.nil FTys.nil ⟨by simp,by simp⟩ RowsOf.nil (Yd _)
      | (refine ZaH H (fun x=>?_);simp(disch:=omega))
      | exact RdN.mk (true,i+1) rfl hj dO
      | (refine Tcs (fun hc=>?_) (fun hc=>?_)<;>simp(disch:=omega)[hc]<;>try simp only [bz] at hc)
      | (exfalso;omega))
 cases f2<;>simp(disch:=omega)
 all_goals
  refine Lp.rule (fun (b:Bool×Nat)=>[fR 5,fR 8,fR 10,fR 11,fR 15,(29,.a (.one (.tip 22 fl))),(37,.a (pi b.2)),o9,(10005,.a (aN o s n k u m a t l z)),(10008,.a (aC0)),(10010,.a (a00)),(10011,.a (aC0)),(10015,.a (.agg [.s s,.i 6,.s u,.i 0,.tip 4 ta,.tip 1 (strs gs),.l 10 rs,uq fg 4 ct,uq b.1 1 (strs fs)]))]) (fun b=>b.2<=fs.length) (fun b=>fs.length-b.2) (a₀:=(false,0)) rfl (Yd _) ?_;rintro ⟨f3,i⟩ i0;dsimp only at i0;by_cases hj:i<fs.length
  ·have hb:=Zbh (l:=fs) hj;cases f3<;>simp(disch:=omega)[hb,ZCB,Zzm]
   repeat' (first
        | exact hQ _ _ _ _ _ _ _ [] _ _ [] _ _ _ Sn.nil FTy.zero Sns.nil RowsOf.nil FTys.nil ⟨by simp,by simp⟩ RowsOf.nil (Yd _)
        | (refine ZaH H (fun x=>?_);simp(disch:=omega))
        | exact RdN.mk (true,i+1) rfl hj dO
        | (refine Tcs (fun hc=>?_) (fun hc=>?_)<;>simp(disch:=omega)[hc]<;>try simp only [bz] at hc)
        | (exfalso;omega))
  cases f3<;>cases fg<;>simp(disch:=omega)[ZCB,Zzm,ZCF,Zx0]
  all_goals exact hQ _ _ _ _ _ _ _ _ _ _ _ _ _ _ g2 hself hgs hrs hcts ⟨by omega,hfs⟩ hfl Zo
end Go.Am.Fe
end
