/- Part. -/
import Derived.Test.YtmofclmogldnjaaGreatDoorCar
set_option maxRecDepth 999999
set_option maxHeartbeats 0
set_option linter.all false
section
namespace Go.Am.Fe
variable {S:SF} {Q:QF}
attribute [local simp] ZbO if_pos if_neg decide_eq_true decide_eq_false Yi Yj ZgF
def kdOf (o:Int):Int:=if o=2 then 1 else if o=3 then 2 else if o=4 then 3 else 0
def Zpa (H:Has S) {o:Int} (hQ:Q [pi (kdOf o)] []):Gives S Zeq [pi o] [] Q:=by
 refine .code H.ZvG rfl ?_;unfold kdOf at hQ;simp(disch:=omega)[Zkp];by_cases h2:o=2
 ·simp(disch:=omega)[h2] at*;exact hQ
 by_cases h3:o=3
 ·simp(disch:=omega)[h3] at*;exact hQ
 by_cases h4:o=4
 ·simp(disch:=omega)[h4] at*;exact hQ
 simp(disch:=omega)[h2,h3,h4] at*;exact hQ
def opR (r:List P):Int:=match r with| .int _ o::_=>o|_=>0
def ZCS (r:List P):LN:=match r with|_:: .str s::_=>s|_=>[]
def ZyN {l:LP} {j:Nat}:cntP (l.take j)<=j:=by
 have h1:cntP (l.take j)<=(l.take j).length:=List.length_filter_le ..;have h2:=List.length_take_le j l;omega
def RowsOf.app {R:List P->Prop} {a b:LP} (h1:RowsOf R a) (h2:RowsOf R b) (h:a.length+b.length<=100000):RowsOf R (a++b):=
 ⟨by simp;omega,fun x hx=>(List.mem_append.1 hx).elim (h1.2 x) (h2.2 x)⟩
def Zue (H:Has S) (HR:HasPr S) {l:LP} (hl:IsNds 24000 l) (hQ:(∀(noms pro cfs fns:LP) (c x:Int),RowsOf NoR noms->RowsOf PrR pro->RowsOf CoR cfs->RowsOf FuR fns->Q [.agg [.l 17 noms,.l 3 pro,.l 9 cfs,.l 22 fns],.agg [.i c,.i x]] [])):Gives S Zkg [aN 1 [] 0 0 [] 0 [] [] l 0] [] Q:=by
 have hf:=hl.fNds Zo;have hlen:=hf.len;have hnd:FNd _ (rN 1 [] 0 0 [] 0 [] [] l 0):=FNd.mk (z:=0) Sn.nil FTy.zero FTys.nil hf Zo Zo;refine .code H.Zy1 rfl ?_;simp(disch:=omega)[Znt];refine Zuv H HR (mm:=30000) Zo ((IsNd.mk (m1:=1) Str.nil (IsTy.mk (m:=0) Str.nil IsTys.nil Zo) IsTys.nil hl Zo Zo).le Zo) hl fun b=>?_;cases b
 · simp(disch:=omega);exact hQ [] [] [] [] _ _ RowsOf.nil RowsOf.nil RowsOf.nil RowsOf.nil
 simp(disch:=omega);refine Lp.rule (fun (b:List LN×Nat)=>[fR 1,fR 2,fR 3,fR 4,(5,.a (.one (.tip 1 (strs b.1)))),(6,.a (pi b.2)),o9,(10001,.a (aN 1 [] 0 0 [] 0 [] [] l 0)),(10002,.a (aM0)),(10003,.a (a00)),(10004,.a (aM0))]) (fun b=>b.2<=l.length/\b.2<=40/\b.1.length<=b.2+2) (fun b=>l.length-b.2) (a₀:=([[79,112,116],[70,114,111,109,73,110,116]],0)) rfl ⟨Yd _,by decide,by simp⟩ ?_;rintro ⟨seen,j⟩ ⟨k0,k1,k2⟩;dsimp only at k0 k1 k2;by_cases hj:j<l.length
 · obtain ⟨m',q1,q2⟩:=hf.get hj;obtain ⟨o2,n2,k2',m2',z2,s2,u2,a2,t2,l2,e⟩:=q2.form;rw [e] at q2;obtain ⟨_,_,_,_,f1,f2,f3,f4,f5,_⟩:=q2.inv;simp(disch:=omega)[e]
   repeat' (first
     | exact hQ [] [] [] [] _ _ RowsOf.nil RowsOf.nil RowsOf.nil RowsOf.nil
     | (refine ZaH H (fun x=>?_);simp(disch:=omega))
     | (refine Zpa H ?_;simp(disch:=omega)[e])
     | exact RdN.mk (_,j+1) rfl ⟨hj,by omega,by first|omega|(simp;omega)⟩ dO
     | (refine ZeR H (fun x=>?_);cases x<;>simp(disch:=omega)[e])
     | (refine Zeh H Zo (fun x hx hx2=>?_) (fun x hx hx2=>?_)<;>(try subst hx)<;>simp(disch:=omega)[e,Zaz])
     | (refine Tcs (fun hc=>?_) (fun hc=>?_)<;>simp(disch:=omega)[hc,e,Zaz]<;>try simp only [bz] at hc)
     | (exfalso;omega))
 have hl40:l.length<=40:=by omega
 simp(disch:=omega);refine Zu8 H Zd hnd fun ty ki ar mo pr hi hW hpr=>?_;have w1:=hW.t.1;have w2:=hW.p.1;have w3:=hW.k;have w4:=hW.a;have w5:=hW.m;have w6:=hW.h;simp(disch:=omega);refine ZxP H fun s0 kd0 gs0 b01 b02 fs0 cs0 o0 n0 k0 m0 z0 sn0 u0 a0 t0 l0 h0=>?_;simp(disch:=omega);refine Zrh H fun s1 as1 ms1 h1=>?_;simp(disch:=omega);refine Lp.rule (fun (b:LP×Nat)=>[fR 1,fR 2,fR 3,fR 4,fR 8,fR 9,(10,.a (pi b.2)),o9,(10001,.a (aN 1 [] 0 0 [] 0 [] [] l 0)),(10002,.a (aM0)),(10003,.a (a00)),(10004,.a (aM0)),(10008,.a (aW ty ki ar mo pr hi)),(10009,.a (.agg [.tip 17 [[.str s0,.i kd0,.sl 1 (strs gs0),.bool b01,.bool b02,.sl 6 fs0,.sl 3 cs0,.i o0,.str sn0,.i n0,.i k0,.str u0,.i m0,.sl 4 a0,.sl 4 t0,.sl 10 l0,.i z0]],.tip 3 b.1,.tip 9 [],.tip 22 []]))]) (fun b=>b.2<=l.length/\b.1.length=1+cntP (l.take b.2)/\RowsOf PrR b.1) (fun b=>l.length-b.2) (a₀:=([_],0)) rfl ⟨Yd _,rfl,⟨by simp,fun x hx=>by simp at hx;rw [hx];exact h1⟩⟩ ?_;rintro ⟨pro,j⟩ ⟨k0,k1,k2⟩;dsimp only at k0 k1 k2;by_cases hj:j<l.length
 · obtain ⟨m',q1,q2⟩:=hf.get hj;obtain ⟨o2,n2,k2',m2',z2,s2,u2,a2,t2,l2,e⟩:=q2.form;rw [e] at q2;obtain ⟨_,_,_,_,f1,f2,f3,f4,f5,_⟩:=q2.inv;have hp:=Zqj hj e;have hp2:= @ZyN l j;simp(disch:=omega)[e]
   repeat' (first
     | exact hQ [] [] [] [] _ _ RowsOf.nil RowsOf.nil RowsOf.nil RowsOf.nil
     | exact RdN.mk (pro,j+1) rfl ⟨hj,dO,k2⟩ dO
     | exact RdN.mk (_,j+1) rfl ⟨hj,by dsimp only;rw [YF];simp only [YO,qX];omega,k2.snoc ⟨_,_,_,rfl,c1,c2,c3⟩ Zo⟩ dO
     | (refine Zpj H hW q2 (fun s' as ms c x c1 c2 c3=>?_);simp(disch:=omega)[e])
     | (refine Tcs (fun hc=>?_) (fun hc=>?_)<;>simp(disch:=omega)[hc,e]<;>try simp only [bz] at hc)
     | (exfalso;omega))
 rw [Yg Zo] at k1;have hpl:pro.length=pr.length:=by omega
 simp(disch:=omega);refine Lp.rule (fun (b:LP×Nat)=>[fR 1,fR 2,fR 3,fR 4,fR 8,fR 9,(13,.a (pi b.2)),o9,(10001,.a (aN 1 [] 0 0 [] 0 [] [] l 0)),(10002,.a (aM0)),(10003,.a (a00)),(10004,.a (aM0)),(10008,.a (aW ty ki ar mo pr hi)),(10009,.a (.agg [.tip 17 b.1,.tip 3 pro,.tip 9 [],.tip 22 []]))]) (fun b=>b.2<=l.length/\b.1.length<=b.2+1/\RowsOf NoR b.1/\ ∀i (hi:i<l.length),i<b.2->kdOf (opR l[i])≠0->ZCS l[i]∈nmL b.1) (fun b=>l.length-b.2) (a₀:=([_],0)) rfl ⟨Yd _,by simp,⟨by simp,fun x hx=>by simp at hx;rw [hx];exact h0⟩,fun i _ hi=>absurd hi (YI _)⟩ ?_;rintro ⟨noms,j⟩ ⟨k0,k3,k4,k5⟩;dsimp only at k0 k3 k4 k5;by_cases hj:j<l.length
 · obtain ⟨m',q1,q2⟩:=hf.get hj;obtain ⟨o2,n2,k2',m2',z2,s2,u2,a2,t2,l2,e⟩:=q2.form;rw [e] at q2;obtain ⟨_,_,_,_,f1,f2,f3,f4,f5,_⟩:=q2.inv;simp(disch:=omega)[e]
   repeat' (first
     | exact hQ [] [] [] [] _ _ RowsOf.nil RowsOf.nil RowsOf.nil RowsOf.nil
     | (refine Zpa H ?_;simp(disch:=omega)[e])
     | exact RdN.mk (noms,j+1) rfl ⟨hj,dO,k4,fun i hi hi2 hk=>by
         have hi2:i<j+1:=hi2;rcases Yt i j with h|h
         · exact k5 i hi h hk
         · have:i=j:=by omega
           subst this;rw [e] at hk;exact absurd hc hk⟩ dO
     | exact RdN.mk (_,j+1) rfl ⟨hj,by simp;omega,k4.snoc ⟨_,_,_,_,_,_,_,_,_,_,_,_,_,_,_,_,_,_,rfl,c1,c2,c3,c4,c5⟩ Zo,fun i hi hi2 hk=>by
         have hi2:i<j+1:=hi2;rw [Zqv,Ys];rcases Yt i j with h|h
         · exact .inl (k5 i hi h hk)
         · have:i=j:=by omega
           subst this;rw [e]
           right
           simp [nmL,hdS,ZCS,c6 hc]⟩ dO
     | (refine ZrL H hW q2 (fun mm8 s8 kd8 gs8 b1 b2 fs cs o' n' k' m' z' s' u' a' t' l' c x c1 c2 c3 c4 c5 c6=>?_);simp(disch:=omega)[e])
     | (refine Tcs (fun hc=>?_) (fun hc=>?_)<;>simp(disch:=omega)[hc,e]<;>try simp only [bz] at hc)
     | (exfalso;omega))
 simp(disch:=omega);refine Lp.rule (fun (j:Nat)=>[fR 1,fR 2,fR 3,fR 4,fR 8,fR 9,(16,.a (pi j)),o9,(10001,.a (aN 1 [] 0 0 [] 0 [] [] l 0)),(10002,.a (aM0)),(10003,.a (a00)),(10004,.a (aM0)),(10008,.a (aW ty ki ar mo pr hi)),(10009,.a (.agg [.tip 17 noms,.tip 3 pro,.tip 9 [],.tip 22 []]))]) (fun j=>j<=l.length) (fun j=>l.length-j) (a₀:=0) rfl (Yd _) ?_;intro j k0;by_cases hj:j<l.length
 · obtain ⟨m',q1,q2⟩:=hf.get hj;obtain ⟨o2,n2,k2',m2',z2,s2,u2,a2,t2,l2,e⟩:=q2.form;rw [e] at q2;obtain ⟨_,_,_,_,f1,f2,f3,f4,f5,_⟩:=q2.inv;simp(disch:=omega)[e]
   repeat' (first
     | exact hQ [] [] [] [] _ _ RowsOf.nil RowsOf.nil RowsOf.nil RowsOf.nil
     | (refine ZaH H (fun x=>?_);simp(disch:=omega))
     | (refine Zpa H ?_;simp(disch:=omega)[e])
     | exact RdN.mk (j+1) rfl hj Zo
     | (refine ZrR H k4 (by have:=k5 j hj Zo;rw [e] at this;exact this (by show kdOf o2≠0;omega)) (fun x=>?_);cases x<;>simp(disch:=omega)[e])
     | (refine Tcs (fun hc=>?_) (fun hc=>?_)<;>simp(disch:=omega)[hc,e]<;>try simp only [bz] at hc)
     | (exfalso;omega))
 simp(disch:=omega);obtain ⟨f,f0,fa,fb⟩:=hf.parts;refine Lp.rule (fun (b:LP×LP×LP×Nat)=>[fR 1,fR 2,fR 3,fR 4,fR 8,fR 9,(18,.a (.one (.tip 10 b.1))),(19,.a (.one (.tip 22 b.2.1))),(20,.a (pi b.2.2.2)),o9,(10001,.a (aN 1 [] 0 0 [] 0 [] [] l 0)),(10002,.a (aM0)),(10003,.a (a00)),(10004,.a (aM0)),(10008,.a (aW ty ki ar mo pr hi)),(10009,.a (.agg [.tip 17 noms,.tip 3 pro,.tip 9 b.2.2.1,.tip 22 []]))]) (fun b=>b.2.2.2<=l.length/\((∃m,FNds m b.1)/\b.1.length<=b.2.2.2)/\(RowsOf FuR b.2.1/\b.2.1.length<=f b.2.2.2)/\RowsOf CoR b.2.2.1/\b.2.2.1.length<=b.2.2.2) (fun b=>l.length-b.2.2.2) (a₀:=([],[],[],0)) rfl ⟨Yd _,⟨⟨0,FNds.nil⟩,Yc _⟩,⟨RowsOf.nil,Yd _⟩,RowsOf.nil,Yc _⟩ ?_;rintro ⟨past,fext,cfs,j⟩ ⟨k0,⟨⟨mp,hpast⟩,k6⟩,⟨hfe,k7⟩,hcf,k8⟩;dsimp only at k0 hpast k6 hfe k7 hcf k8;by_cases hj:j<l.length
 · obtain ⟨mj,fj,hmj⟩:=fb j hj;have fj2:=fa (j+1) hj;have e0:l[j]=l[j]:=rfl;obtain ⟨o2,n2,k2',m2',z2,s2,u2,a2,t2,l2,e⟩:=hmj.form;rw [e] at hmj;simp(disch:=omega)[e]
   repeat' (first
     | exact hQ [] [] [] [] _ _ RowsOf.nil RowsOf.nil RowsOf.nil RowsOf.nil
     | exact RdN.mk (past,fext,cfs,j+1) rfl ⟨hj,⟨⟨_,hpast⟩,dO⟩,⟨hfe,dO⟩,hcf,dO⟩ dO
     | (refine ZrV H hW hpast k2 hpl hmj (fun m1 m2 s' k' n' u' a' gs qs ts fs fl c x c1 c2 c3 c4 c5 c6 c7 c8=>?_);simp(disch:=omega)[e])
     | (refine Lp.rule (fun (i:Nat)=>[fR 1,fR 2,fR 3,fR 4,fR 8,fR 9,(18,.a (.one (.tip 10 (past++[[.i o2,.str s2,.i n2,.i k2',.str u2,.i m2',.sl 4 a2,.sl 4 t2,.sl 10 l2,.i z2]])))),(19,.a (.one (.tip 22 (fext++fl.take i)))),(20,.a (pi j)),(22,.a (.one (.l 22 fl))),(24,.a (pi i)),o9,(10001,.a (aN 1 [] 0 0 [] 0 [] [] l 0)),(10002,.a (aM0)),(10003,.a (a00)),(10004,.a (aM0)),(10008,.a (aW ty ki ar mo pr hi)),(10009,.a (.agg [.tip 17 noms,.tip 3 pro,.tip 9 (cfs++[[.str s',.i k',.str u',.i n',.sl 4 a',.sl 1 (strs gs),.sl 10 qs,.sl 4 ts,.sl 1 (strs fs)]]),.tip 22 []]))]) (fun i=>i<=fl.length) (fun i=>fl.length-i) (a₀:=0) Zs (Yd _) ?_
        intro i i0;by_cases hi:i<fl.length;rotate_left;have e14:fl.take i=fl:=Yg Zo;simp(disch:=omega)[e,e14];rotate_left;have hrow:=c7.get hi;obtain ⟨_,_,_,_,_,_,_,_,_,_,_,_,_,_,_,_,_,_,_,_,_,_,_,_,_,er,_⟩:=hrow;simp(disch:=omega)[e,er];exact RdN.mk (i+1) (by simp [Ym,Ya hi,er]) hi Zo)
     | exact RdN.mk (_,_,_,j+1) rfl ⟨hj,⟨⟨_,hpast.snoc hmj Zo⟩,by simp;omega⟩,⟨hfe.app c7 Zo,by simp;omega⟩,hcf.snoc ⟨_,_,_,_,_,_,_,_,_,_,_,rfl,c1,c2,c3,c4,c5,c6⟩ Zo,by simp;omega⟩ dO
     | (refine Tcs (fun hc=>?_) (fun hc=>?_)<;>simp(disch:=omega)[hc,e]<;>try simp only [bz] at hc)
     | (exfalso;omega))
 have fl1:=fa l.length (Yc _);have fl2:fext.length<=24000:=by (have:j=l.length:=by omega);rw [this] at k7;omega
 simp(disch:=omega);refine Lp.rule (fun (b:LP×Nat)=>[fR 1,fR 2,fR 3,fR 4,fR 8,fR 9,(19,.a (.one (.tip 22 fext))),(25,.a (pi b.2)),o9,(10001,.a (aN 1 [] 0 0 [] 0 [] [] l 0)),(10002,.a (aM0)),(10003,.a (a00)),(10004,.a (aM0)),(10008,.a (aW ty ki ar mo pr hi)),(10009,.a (.agg [.tip 17 noms,.tip 3 pro,.tip 9 cfs,.tip 22 b.1]))]) (fun b=>b.2<=l.length/\RowsOf FuR b.1/\b.1.length<=b.2) (fun b=>l.length-b.2) (a₀:=([],0)) rfl ⟨Yd _,RowsOf.nil,Yc _⟩ ?_;rintro ⟨fns,j⟩ ⟨k0,hfn,k9⟩;dsimp only at k0 hfn k9;by_cases hj:j<l.length
 · obtain ⟨mj,fj,hmj⟩:=fb j hj;have fj2:=fa (j+1) hj;obtain ⟨o2,n2,k2',m2',z2,s2,u2,a2,t2,l2,e⟩:=hmj.form;rw [e] at hmj;simp(disch:=omega)[e]
   repeat' (first
     | exact hQ [] [] [] [] _ _ RowsOf.nil RowsOf.nil RowsOf.nil RowsOf.nil
     | exact RdN.mk (fns,j+1) rfl ⟨hj,hfn,dO⟩ dO
     | (refine Zsj H hf hj Zo (fun sy hsy=>?_);simp(disch:=omega)[e])
     | (refine Zpe H hW hsy Zo hmj (fun mm m1 m2 s8 gs qs ps k1 n1 k2 n2 s1 s2 a1 a2 o' n' k' m' z' s' u' a' t' l' c x c1 c2 c3 c4 c5 c6 c7=>?_);simp(disch:=omega)[e])
     | exact RdN.mk (_,j+1) rfl ⟨hj,hfn.snoc ⟨_,_,_,_,_,_,_,_,_,_,_,_,_,_,_,_,_,_,_,_,_,_,_,_,_,rfl,c1,c2,c3,c4,c5,c6,c7⟩ Zo,by simp;omega⟩ dO
     | (refine Tcs (fun hc=>?_) (fun hc=>?_)<;>simp(disch:=omega)[hc,e]<;>try simp only [bz] at hc)
     | (exfalso;omega))
 simp(disch:=omega);refine Lp.rule (fun (i:Nat)=>[fR 2,fR 3,fR 9,(19,.a (.one (.tip 22 fext))),(28,.a (pi i)),o9,(10002,.a (aM0)),(10003,.a (a00)),(10009,.a (.agg [.tip 17 noms,.tip 3 pro,.tip 9 cfs,.tip 22 (fns++fext.take i)]))]) (fun i=>i<=fext.length) (fun i=>fext.length-i) (a₀:=0) Zs (Yd _) ?_;intro i i0;by_cases hi:i<fext.length
 · obtain ⟨_,_,_,_,_,_,_,_,_,_,_,_,_,_,_,_,_,_,_,_,_,_,_,_,_,er,_⟩:=hfe.get hi;have h14:(fns++fext.take i).length<=30000:=by simp;omega
   simp(disch:=omega)[er];exact RdN.mk (i+1) (by simp [Ym,Ya hi,er]) hi Zo
 · have e14:fext.take i=fext:=Yg Zo;simp(disch:=omega)[e14];exact hQ _ _ _ _ _ _ k4 k2 hcf (hfn.app hfe Zo)
def ZuG (H:Has S) (HR:HasPr S) {src:LN} {lim:Int} (hlim:lim<ZeA) (hb:Byt src) (hQ: ∀(noms pro cfs fns:LP) (ok:Bool),RowsOf NoR noms->RowsOf PrR pro->RowsOf CoR cfs->RowsOf FuR fns->Q [.agg [.l 17 noms,.l 3 pro,.l 9 cfs,.l 22 fns],pb ok] []):Gives S Zgf [ps src,pi lim] [] Q:=by
 have hE:=fun ok=>hQ [] [] [] [] ok RowsOf.nil RowsOf.nil RowsOf.nil RowsOf.nil;refine .code H.ZxG rfl ?_;simp(disch:=omega)[Znj];refine Zaf (fun hc=>?_) (fun hc=>?_)<;>simp(disch:=omega)[hc]
 ·exact hE _
 have hl':src.length<68719476736:=by unfold ZeA at hlim;simp at hc;omega
 have hl:src.length<ZeA:=hl';refine Zow H hl hb (fun ls h1=>?_) (fun op n k m a s s2 args ts ls fs h1 h2=>?_)
 ·simp(disch:=omega);refine Zue H HR h1 fun noms pro cfs fns c x b1 b2 b3 b4=>?_;simp(disch:=omega);exact hQ _ _ _ _ _ b1 b2 b3 b4
 ·have h3:0<fs.length:=List.length_pos_iff.2 h1;simp(disch:=omega)[h1];exact hE _
end Go.Am.Fe
end
