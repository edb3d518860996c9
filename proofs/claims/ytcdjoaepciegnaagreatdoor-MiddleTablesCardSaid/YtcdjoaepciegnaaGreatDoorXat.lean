/- Part. -/
import Derived.Test.YtcdjoaepciegnaaGreatDoorXas
set_option maxRecDepth 999999
set_option maxHeartbeats 0
set_option linter.all false
section
namespace Go.Am.Fe
variable {S:SF} {Q:QF}
attribute [local simp] ZbO if_pos if_neg decide_eq_true decide_eq_false Yi Yj ZgF
def kdOf (o:Int):Int:=if o=2 then 1 else if o=3 then 2 else if o=4 then 3 else 0
def Zpa (H:Has S) {o:Int} (hQ:Q [pi (kdOf o)] []):Gives S Zeq [pi o] [] Q:=by
 refine .code H.ZvG rfl ?_
 unfold kdOf at hQ
 simp(disch:=omega)[Zkp]
 by_cases h2:o=2
 ·simp(disch:=omega)[h2] at*
  exact hQ
 by_cases h3:o=3
 ·simp(disch:=omega)[h3] at*
  exact hQ
 by_cases h4:o=4
 ·simp(disch:=omega)[h4] at*
  exact hQ
 simp(disch:=omega)[h2,h3,h4] at*
 exact hQ
def dN (p:List P->Bool) (l:LP) (j:Nat):List LN:=((l.take j).filter p).map ZCS
def isD (r:List P):Bool:=decide (kdOf (opR r)≠0)||decide (opR r=5)
def isK (r:List P):Bool:=decide (kdOf (opR r)≠0)
def isQ (r:List P):Bool:=decide (opR r=5)
def ZLB {p:List P->Bool} {l:LP} {j:Nat} (hj:j<l.length) (h:p l[j]=true):dN p l (j+1)=dN p l j++[ZCS l[j]]:=by
 unfold dN
 rw [Ym,Ya hj,List.filter_append,YB]
 simp [h]
def ZM2 {p:List P->Bool} {l:LP} {j:Nat} (hj:j<l.length) (h:p l[j]=false):dN p l (j+1)=dN p l j:=by
 unfold dN
 rw [Ym,Ya hj,List.filter_append,YB]
 simp [h]
def ZLZ {p:List P->Bool} {l:LP} {j:Nat} (hj: ¬j<l.length):dN p l j=(l.filter p).map ZCS:=by
 unfold dN
 rw [Yg Zo]
def ZMl {p q:List P->Bool} (h: ∀r,p r=true->q r=true) (l:LP):((l.filter p).map ZCS).Sublist ((l.filter q).map ZCS):=by
 have e:l.filter p=(l.filter q).filter p:=by
  rw [List.filter_filter]
  refine List.filter_congr fun r _=>?_
  cases hp:p r with
  | true=>simp [h r hp]
  | false=>rfl
 rw [e]
 exact List.filter_sublist.map _
def cyR (r:List P):LN:=match r with|_::_:: .str u::_=>u|_=>[]
def cnP (r:List P):LN×LN:=(hdS r,cyR r)
def pnP (r:List P):LN×LN:=(ZCS r,tyR r)
def ZyN {l:LP} {j:Nat}:cntP (l.take j)<=j:=by
 have h1:cntP (l.take j)<=(l.take j).length:=List.length_filter_le ..
 have h2:=List.length_take_le j l
 omega
def RowsOf.app {R:List P->Prop} {a b:LP} (h1:RowsOf R a) (h2:RowsOf R b) (h:a.length+b.length<=100000):RowsOf R (a++b):=
 ⟨by simp;omega,fun x hx=>(List.mem_append.1 hx).elim (h1.2 x) (h2.2 x)⟩
def cfF (r:List P):List LN:=match r with|[_,_,_,_,_,_,_,_,.sl _ l]=>l.map hdS|_=>[]
def ZMF {a b c d e f g h:P} {n:Nat} {fs:List LN}:cfF [a,b,c,d,e,f,g,h,.sl n (strs fs)]=fs:=by
 simp only [cfF,strs,YK]
 exact (YC fun x _=>rfl).trans (List.map_id fs)
structure FnsOK (cfs fns:LP):Prop where
 a: ∀r∈fns,47∈hdS r∨ ∃c∈cfs,hdS r∈cfF c
 b: ∀c∈cfs,∀s∈cfF c,47∉s
 c:((fns.map hdS).filter fun s=>decide (47∈s)).Nodup
def SymsTo (l:LP) (j:Nat) (fns:LP):Prop:=(∀x∈fns.map hdS,∃i,i<j/\SymAt l i x)/\(fns.map hdS).Nodup
def SymsTo.nil {l:LP} {j:Nat}:SymsTo l j []:=⟨fun _ h=>by simp at h,by simp⟩
def SymsTo.skip {l:LP} {j:Nat} {fns:LP} (h:SymsTo l j fns):SymsTo l (j+1) fns:=⟨fun x hx=>let ⟨i,h1,h2⟩:=h.1 x hx;⟨i,Nat.lt_succ_of_lt h1,h2⟩,h.2⟩
def SymsTo.snoc {l:LP} {j:Nat} {fns:LP} {r:List P} (h:SymsTo l j fns) (hr:SymAt l j (hdS r)):SymsTo l (j+1) (fns++[r]):=by
 refine ⟨fun x hx=>?_,?_⟩
 ·rw [YB] at hx
  rcases List.mem_append.1 hx with hx|hx
  ·exact h.skip.1 x hx
  ·rw [List.mem_singleton.1 hx]
   exact ⟨j,Yz _,hr⟩
 ·rw [YB,List.nodup_append]
  refine ⟨h.2,by simp,fun a ha b hb=>?_⟩
  obtain ⟨i,h1,h2⟩:=h.1 a ha
  rw [List.mem_singleton.1 hb]
  exact h2.ne hr h1
theorem Zue (H:Has S) (HR:HasPr S) {l:LP} (hl:IsNds 24000 l) (hQ:(∀(noms pro cfs fns:LP) (c x:Int),RowsOf NoR noms->RowsOf PrR pro->RowsOf CoR cfs->RowsOf FuR fns->(c=0->noms≠[]/\fns.length<=50000/\(nmL noms).Nodup/\(nmL pro).Nodup/\(cfs.map cnP).Nodup/\(∀r∈cfs,Wd (cyR r))/\FnsOK cfs fns)->Q [.agg [.l 17 noms,.l 3 pro,.l 9 cfs,.l 22 fns],.agg [.i c,.i x]] [])):Gives S Zkg [aN 1 [] 0 0 [] 0 [] [] l 0] [] Q:=by
 have hf:=hl.fNds Zo
 have hlen:=hf.len
 have hnd:FNd _ (rN 1 [] 0 0 [] 0 [] [] l 0):=FNd.mk (z:=0) Sn.nil FTy.zero FTys.nil hf (fun h=>absurd h Zd) Zo
 refine .code H.Zy1 rfl ?_
 simp(disch:=omega)[Znt]
 refine Zuv H HR (mm:=30000) Zo ((IsNd.mk (m1:=1) Str.nil (IsTy.mk (m:=0) Str.nil IsTys.nil Zo) IsTys.nil hl (fun h=>absurd h Zd) Zo).le Zo) hl fun b=>?_
 cases b
 · simp(disch:=omega)
   exact hQ [] [] [] [] _ _ RowsOf.nil RowsOf.nil RowsOf.nil RowsOf.nil aF
 simp(disch:=omega)
 refine Lp.rule (fun (b:List LN×Nat)=>[fR 1,fR 2,fR 3,fR 4,(5,.a (.one (.tip 1 (strs b.1)))),(6,.a (pi b.2)),o9,(10001,.a (aN 1 [] 0 0 [] 0 [] [] l 0)),(10002,.a (aM0)),(10003,.a (a00)),(10004,.a (aM0))]) (fun b=>b.2<=l.length/\b.2<=40/\b.1.length<=b.2+2/\b.1=opts::ZM1::dN isD l b.2/\b.1.Nodup) (fun b=>l.length-b.2) (a₀:=([[79,112,116],[70,114,111,109,73,110,116]],0)) rfl ⟨Yd _,by decide,by simp,rfl,by decide⟩ ?_
 rintro ⟨seen,j⟩ ⟨k0,k1,k2,ks,kn⟩
 dsimp only at k0 k1 k2 ks kn
 by_cases hj:j<l.length
 · obtain ⟨m',q1,q2⟩:=hf.get hj
   obtain ⟨o2,n2,k2',m2',z2,s2,u2,a2,t2,l2,e⟩:=q2.form
   rw [e] at q2
   obtain ⟨_,_,_,_,f1,f2,f3,f4,f5,_⟩:=q2.inv
   simp(disch:=omega)[e]
   repeat' (first
     | exact hQ [] [] [] [] _ _ RowsOf.nil RowsOf.nil RowsOf.nil RowsOf.nil aF
     | (refine ZaH H (fun x=>?_);simp(disch:=omega))
     | (refine Zpa H ?_;simp(disch:=omega)[e])
     | exact RdN.mk (seen,j+1) rfl ⟨hj,by omega,dO,by rw [ZM2 hj (by rw [e];simp [isD,opR, *])];exact ks,kn⟩ dO
     | exact RdN.mk (_,j+1) rfl ⟨hj,by omega,by simp;omega,by rw [ZLB hj (by rw [e];simp [isD,opR, *]),e,ks];rfl,by
         rw [List.nodup_append]
         exact ⟨kn,by simp,fun a ha b hb=>by simp at hb;subst hb;exact fun he=>hx2 (he ▸ ha)⟩⟩ dO
     | (refine ZeR H (fun x=>?_);cases x<;>simp(disch:=omega)[e])
     | (refine Zeh H Zo (fun x hx hx2=>?_) (fun x hx hx2=>?_)<;>(try subst hx)<;>simp(disch:=omega)[e,Zaz])
     | (refine Tcs (fun hc=>?_) (fun hc=>?_)<;>simp(disch:=omega)[hc,e,Zaz]<;>try simp only [bz] at hc)
     | (exfalso;omega))
 have hl40:l.length<=40:=by omega
 rw [ZLZ hj] at ks
 rw [ks] at kn
 simp(disch:=omega)
 refine Zu8 H Zd hnd fun ty ki ar mo pr hi hW hpr=>?_
 have w1:=hW.t.1
 have w2:=hW.p.1
 have w3:=hW.k
 have w4:=hW.a
 have w5:=hW.m
 have w6:=hW.h
 simp(disch:=omega)
 refine ZxP H fun s0 kd0 gs0 b01 b02 fs0 cs0 o0 n0 k0 m0 z0 sn0 u0 a0 t0 l0 h0 hs0=>?_
 simp(disch:=omega)
 refine Zrh H fun s1 as1 ms1 h1 hs1=>?_
 simp(disch:=omega)
 refine Lp.rule (fun (b:LP×Nat)=>[fR 1,fR 2,fR 3,fR 4,fR 8,fR 9,(10,.a (pi b.2)),o9,(10001,.a (aN 1 [] 0 0 [] 0 [] [] l 0)),(10002,.a (aM0)),(10003,.a (a00)),(10004,.a (aM0)),(10008,.a (aW ty ki ar mo pr hi)),(10009,.a (.agg [.tip 17 [[.str s0,.i kd0,.sl 1 (strs gs0),.bool b01,.bool b02,.sl 6 fs0,.sl 3 cs0,.i o0,.str sn0,.i n0,.i k0,.str u0,.i m0,.sl 4 a0,.sl 4 t0,.sl 10 l0,.i z0]],.tip 3 b.1,.tip 9 [],.tip 22 []]))]) (fun b=>b.2<=l.length/\b.1.length=1+cntP (l.take b.2)/\RowsOf PrR b.1/\nmL b.1=ZM1::dN isQ l b.2) (fun b=>l.length-b.2) (a₀:=([_],0)) rfl ⟨Yd _,rfl,⟨by simp,fun x hx=>by simp at hx;rw [hx];exact h1⟩,by rw [<-hs1];rfl⟩ ?_
 rintro ⟨pro,j⟩ ⟨k0,k1,k2,kq⟩
 dsimp only at k0 k1 k2 kq
 by_cases hj:j<l.length
 · obtain ⟨m',q1,q2⟩:=hf.get hj
   obtain ⟨o2,n2,k2',m2',z2,s2,u2,a2,t2,l2,e⟩:=q2.form
   rw [e] at q2
   obtain ⟨_,_,_,_,f1,f2,f3,f4,f5,_⟩:=q2.inv
   have hp:=Zqj hj e
   have hp2:= @ZyN l j
   simp(disch:=omega)[e]
   repeat' (first
     | exact hQ [] [] [] [] _ _ RowsOf.nil RowsOf.nil RowsOf.nil RowsOf.nil aF
     | exact RdN.mk (pro,j+1) rfl ⟨hj,dO,k2,by rw [ZM2 hj (by rw [e];simp [isQ,opR, *])];exact kq⟩ dO
     | exact RdN.mk (_,j+1) rfl ⟨hj,by dsimp only;rw [YE];simp only [YN,List.length_nil];omega,k2.snoc ⟨_,_,_,rfl,c1,c2,c3⟩ Zo,by rw [Zqv,kq,ZLB hj (by rw [e];simp [isQ,opR, *]),e];simp [nmL,hdS,ZCS,c4 hc]⟩ dO
     | (refine Zpj H hW q2 (fun s' as ms c x c1 c2 c3 c4=>?_);simp(disch:=omega)[e])
     | (refine Tcs (fun hc=>?_) (fun hc=>?_)<;>simp(disch:=omega)[hc,e]<;>try simp only [bz] at hc)
     | (exfalso;omega))
 rw [Yg Zo] at k1
 have hpl:pro.length=pr.length:=by omega
 rw [ZLZ hj] at kq
 simp(disch:=omega)
 refine Lp.rule (fun (b:LP×Nat)=>[fR 1,fR 2,fR 3,fR 4,fR 8,fR 9,(13,.a (pi b.2)),o9,(10001,.a (aN 1 [] 0 0 [] 0 [] [] l 0)),(10002,.a (aM0)),(10003,.a (a00)),(10004,.a (aM0)),(10008,.a (aW ty ki ar mo pr hi)),(10009,.a (.agg [.tip 17 b.1,.tip 3 pro,.tip 9 [],.tip 22 []]))]) (fun b=>b.2<=l.length/\(b.1.length<=b.2+1/\b.1≠[])/\RowsOf NoR b.1/\(∀i (hi:i<l.length),i<b.2->kdOf (opR l[i])≠0->ZCS l[i]∈nmL b.1)/\nmL b.1=opts::dN isK l b.2) (fun b=>l.length-b.2) (a₀:=([_],0)) rfl ⟨Yd _,by simp,⟨by simp,fun x hx=>by simp at hx;rw [hx];exact h0⟩,fun i _ hi=>absurd hi (YH _),by rw [<-hs0];rfl⟩ ?_
 rintro ⟨noms,j⟩ ⟨k0,⟨k3,hne⟩,k4,k5,kk⟩
 dsimp only at k0 k3 hne k4 k5 kk
 by_cases hj:j<l.length
 · obtain ⟨m',q1,q2⟩:=hf.get hj
   obtain ⟨o2,n2,k2',m2',z2,s2,u2,a2,t2,l2,e⟩:=q2.form
   rw [e] at q2
   obtain ⟨_,_,_,_,f1,f2,f3,f4,f5,_⟩:=q2.inv
   simp(disch:=omega)[e]
   repeat' (first
     | exact hQ [] [] [] [] _ _ RowsOf.nil RowsOf.nil RowsOf.nil RowsOf.nil aF
     | (refine Zpa H ?_;simp(disch:=omega)[e])
     | exact RdN.mk (noms,j+1) rfl ⟨hj,⟨dO,hne⟩,k4,fun i hi hi2 hk=>by
         have hi2:i<j+1:=hi2
         rcases Yt i j with h|h
         · exact k5 i hi h hk
         · have:i=j:=by omega
           subst this
           rw [e] at hk
           exact absurd hc hk,by rw [ZM2 hj (by rw [e];simp [isK,opR, *])];exact kk⟩ dO
     | exact RdN.mk (_,j+1) rfl ⟨hj,⟨by simp;omega,by simp⟩,k4.snoc ⟨_,_,_,_,_,_,_,_,_,_,_,_,_,_,_,_,_,_,rfl,c1,c2,c3,c4,c5,(c6 hc).2⟩ Zo,fun i hi hi2 hk=>by
         have hi2:i<j+1:=hi2
         rw [Zqv,Ys]
         rcases Yt i j with h|h
         · exact .inl (k5 i hi h hk)
         · have:i=j:=by omega
           subst this
           rw [e]
           right
           simp [nmL,hdS,ZCS,(c6 hc).1],by rw [Zqv,kk,ZLB hj (by rw [e];simp [isK,opR, *]),e];simp [nmL,hdS,ZCS,(c6 hc).1]⟩ dO
     | (refine ZrL H hW q2 Zo (fun mm8 s8 kd8 gs8 b1 b2 fs cs o' n' k' m' z' s' u' a' t' l' c x c1 c2 c3 c4 c5 c6=>?_);simp(disch:=omega)[e])
     | (refine Tcs (fun hc=>?_) (fun hc=>?_)<;>simp(disch:=omega)[hc,e]<;>try simp only [bz] at hc)
     | (exfalso;omega))
 rw [ZLZ hj] at kk
 simp(disch:=omega)
 refine Lp.rule (fun (j:Nat)=>[fR 1,fR 2,fR 3,fR 4,fR 8,fR 9,(16,.a (pi j)),o9,(10001,.a (aN 1 [] 0 0 [] 0 [] [] l 0)),(10002,.a (aM0)),(10003,.a (a00)),(10004,.a (aM0)),(10008,.a (aW ty ki ar mo pr hi)),(10009,.a (.agg [.tip 17 noms,.tip 3 pro,.tip 9 [],.tip 22 []]))]) (fun j=>j<=l.length) (fun j=>l.length-j) (a₀:=0) rfl (Yd _) ?_
 intro j k0
 by_cases hj:j<l.length
 · obtain ⟨m',q1,q2⟩:=hf.get hj
   obtain ⟨o2,n2,k2',m2',z2,s2,u2,a2,t2,l2,e⟩:=q2.form
   rw [e] at q2
   obtain ⟨_,_,_,_,f1,f2,f3,f4,f5,_⟩:=q2.inv
   simp(disch:=omega)[e]
   repeat' (first
     | exact hQ [] [] [] [] _ _ RowsOf.nil RowsOf.nil RowsOf.nil RowsOf.nil aF
     | (refine ZaH H (fun x=>?_);simp(disch:=omega))
     | (refine Zpa H ?_;simp(disch:=omega)[e])
     | exact RdN.mk (j+1) rfl hj Zo
     | (refine ZrR H k4 (by have:=k5 j hj Zo;rw [e] at this;exact this (by show kdOf o2≠0;omega)) (fun x=>?_);cases x<;>simp(disch:=omega)[e])
     | (refine Tcs (fun hc=>?_) (fun hc=>?_)<;>simp(disch:=omega)[hc,e]<;>try simp only [bz] at hc)
     | (exfalso;omega))
 simp(disch:=omega)
 obtain ⟨f,f0,fa,fb⟩:=hf.parts
 refine Lp.rule (fun (b:LP×LP×LP×Nat)=>[fR 1,fR 2,fR 3,fR 4,fR 8,fR 9,(18,.a (.one (.tip 10 b.1))),(19,.a (.one (.tip 22 b.2.1))),(20,.a (pi b.2.2.2)),o9,(10001,.a (aN 1 [] 0 0 [] 0 [] [] l 0)),(10002,.a (aM0)),(10003,.a (a00)),(10004,.a (aM0)),(10008,.a (aW ty ki ar mo pr hi)),(10009,.a (.agg [.tip 17 noms,.tip 3 pro,.tip 9 b.2.2.1,.tip 22 []]))]) (fun b=>b.2.2.2<=l.length/\((∃m,FNds m b.1)/\b.1.length<=b.2.2.2)/\(RowsOf FuR b.2.1/\b.2.1.length<=f b.2.2.2/\ ∀r∈b.2.1,∃c∈b.2.2.1,hdS r∈cfF c)/\(RowsOf CoR b.2.2.1/\b.2.2.1.map cnP=b.1.map pnP/\(b.1.map pnP).Nodup/\ ∀r∈b.2.2.1,Wd (cyR r)/\ ∀s∈cfF r,47∉s)/\b.2.2.1.length<=b.2.2.2) (fun b=>l.length-b.2.2.2) (a₀:=([],[],[],0)) rfl ⟨Yd _,⟨⟨0,FNds.nil⟩,Yc _⟩,⟨RowsOf.nil,Yd _,fun _ h=>nomatch h⟩,⟨RowsOf.nil,rfl,List.nodup_nil,fun _ h=>nomatch h⟩,Yc _⟩ ?_
 rintro ⟨past,fext,cfs,j⟩ ⟨k0,⟨⟨mp,hpast⟩,k6⟩,⟨hfe,k7,kf⟩,⟨hcf,km,kd,kc⟩,k8⟩
 dsimp only at k0 hpast k6 hfe k7 kf hcf km kd kc k8
 by_cases hj:j<l.length
 · obtain ⟨mj,fj,hmj⟩:=fb j hj
   have fj2:=fa (j+1) hj
   have e0:l[j]=l[j]:=rfl
   obtain ⟨o2,n2,k2',m2',z2,s2,u2,a2,t2,l2,e⟩:=hmj.form
   rw [e] at hmj
   simp(disch:=omega)[e]
   repeat' (first
     | exact hQ [] [] [] [] _ _ RowsOf.nil RowsOf.nil RowsOf.nil RowsOf.nil aF
     | exact RdN.mk (past,fext,cfs,j+1) rfl ⟨hj,⟨⟨_,hpast⟩,dO⟩,⟨hfe,dO,kf⟩,⟨hcf,km,kd,kc⟩,dO⟩ dO
     | (refine ZrV H hW hpast k2 hpl hmj (hmj.invw Zo) (fun m1 m2 s' k' n' u' a' gs qs ts fs fl c x c1 c2 c3 c4 c5 c6 c7 c8 c9=>?_);simp(disch:=omega)[e])
     | (refine Lp.rule (fun (i:Nat)=>[fR 1,fR 2,fR 3,fR 4,fR 8,fR 9,(18,.a (.one (.tip 10 (past++[[.i o2,.str s2,.i n2,.i k2',.str u2,.i m2',.sl 4 a2,.sl 4 t2,.sl 10 l2,.i z2]])))),(19,.a (.one (.tip 22 (fext++fl.take i)))),(20,.a (pi j)),(22,.a (.one (.l 22 fl))),(24,.a (pi i)),o9,(10001,.a (aN 1 [] 0 0 [] 0 [] [] l 0)),(10002,.a (aM0)),(10003,.a (a00)),(10004,.a (aM0)),(10008,.a (aW ty ki ar mo pr hi)),(10009,.a (.agg [.tip 17 noms,.tip 3 pro,.tip 9 (cfs++[[.str s',.i k',.str u',.i n',.sl 4 a',.sl 1 (strs gs),.sl 10 qs,.sl 4 ts,.sl 1 (strs fs)]]),.tip 22 []]))]) (fun i=>i<=fl.length) (fun i=>fl.length-i) (a₀:=0) Zs (Yd _) ?_
        intro i i0
        by_cases hi:i<fl.length
        rotate_left
        have e14:fl.take i=fl:=Yg Zo
        simp(disch:=omega)[e,e14]
        rotate_left
        have hrow:=c7.get hi
        obtain ⟨_,_,_,_,_,_,_,_,_,_,_,_,_,_,_,_,_,_,_,_,_,_,_,_,_,er,_⟩:=hrow
        simp(disch:=omega)[e,er]
        exact RdN.mk (i+1) (by simp [Ym,Ya hi,er]) hi Zo)
     | exact RdN.mk (_,_,_,j+1) rfl ⟨hj,⟨⟨_,hpast.snoc hmj Zo⟩,by simp;omega⟩,⟨hfe.app c7 Zo,by simp;omega,fun r hr=>by
           rcases List.mem_append.1 hr with hr|hr
           · obtain ⟨c,h1,h2⟩:=kf r hr
             exact ⟨c,List.mem_append_left _ h1,h2⟩
           · exact ⟨_,List.mem_append_right _ Yr,by rw [ZMF];exact (c9 hc).2.2.2.2.2.2 r hr⟩⟩,⟨hcf.snoc ⟨_,_,_,_,_,_,_,_,_,_,_,rfl,c1,c2,c3,c4,c5,c6,(c9 hc).2.2.2.2.1⟩ Zo,by rw [YB,YB,km];simp [cnP,pnP,hdS,cyR,ZCS,tyR,(c9 hc).1,(c9 hc).2.1],by
           rw [YB,List.nodup_append]
           refine ⟨kd,by simp,fun a ha b hb=>?_⟩
           obtain ⟨r,hr,rfl⟩:=List.mem_map.1 ha
           simp at hb
           subst hb
           intro he
           simp only [pnP,YL] at he
           exact (c9 hc).2.2.2.1 r hr ⟨he.1,he.2⟩,fun r hr=>by
           rcases List.mem_append.1 hr with hr|hr
           · exact kc r hr
           · simp at hr;subst hr;exact ⟨(c9 hc).2.2.1,by rw [ZMF];exact (c9 hc).2.2.2.2.2.1⟩⟩,by simp;omega⟩ dO
     | (refine Tcs (fun hc=>?_) (fun hc=>?_)<;>simp(disch:=omega)[hc,e]<;>try simp only [bz] at hc)
     | (exfalso;omega))
 have nd1:(nmL noms).Nodup:=by
   rw [kk]
   refine List.Nodup.sublist ?_ kn
   exact ((ZMl (fun r h=>by simp only [isK,isD,Bool.or_eq_true] at*;exact .inl h) l).trans (List.sublist_cons_self _ _)).cons₂ _
 have nd2:(nmL pro).Nodup:=by
   rw [kq]
   refine List.Nodup.sublist ?_ kn
   exact ((ZMl (fun r h=>by simp only [isQ,isD,Bool.or_eq_true] at*;exact .inr h) l).cons₂ _).trans (List.sublist_cons_self _ _)
 have fl1:=fa l.length (Yc _)
 have fl2:fext.length<=24000:=by
   have:j=l.length:=by omega
   rw [this] at k7;omega
 simp(disch:=omega)
 refine Lp.rule (fun (b:LP×Nat)=>[fR 1,fR 2,fR 3,fR 4,fR 8,fR 9,(19,.a (.one (.tip 22 fext))),(25,.a (pi b.2)),o9,(10001,.a (aN 1 [] 0 0 [] 0 [] [] l 0)),(10002,.a (aM0)),(10003,.a (a00)),(10004,.a (aM0)),(10008,.a (aW ty ki ar mo pr hi)),(10009,.a (.agg [.tip 17 noms,.tip 3 pro,.tip 9 cfs,.tip 22 b.1]))]) (fun b=>b.2<=l.length/\RowsOf FuR b.1/\b.1.length<=b.2/\SymsTo l b.2 b.1) (fun b=>l.length-b.2) (a₀:=([],0)) rfl ⟨Yd _,RowsOf.nil,Yc _,SymsTo.nil⟩ ?_
 rintro ⟨fns,j⟩ ⟨k0,hfn,k9,ksy⟩
 dsimp only at k0 hfn k9 ksy
 by_cases hj:j<l.length
 · obtain ⟨mj,fj,hmj⟩:=fb j hj
   have fj2:=fa (j+1) hj
   obtain ⟨o2,n2,k2',m2',z2,s2,u2,a2,t2,l2,e⟩:=hmj.form
   rw [e] at hmj
   simp(disch:=omega)[e]
   repeat' (first
     | exact hQ [] [] [] [] _ _ RowsOf.nil RowsOf.nil RowsOf.nil RowsOf.nil aF
     | exact RdN.mk (fns,j+1) rfl ⟨hj,hfn,dO,ksy.skip⟩ dO
     | (refine Zsj H hf hj Zo (by rw [e];show o2=7;omega) (by rw [e];exact hmj.invw Zo) (fun sy hsy hsm=>?_);simp(disch:=omega)[e])
     | (refine Zpe H hW hsy Zo hmj (fun mm m1 m2 s8 gs qs ps k1 n1 k2 n2 s1 s2 a1 a2 o' n' k' m' z' s' u' a' t' l' c x c1 c2 c3 c4 c5 c6 c7=>?_);simp(disch:=omega)[e])
     | exact RdN.mk (_,j+1) rfl ⟨hj,hfn.snoc ⟨_,_,_,_,_,_,_,_,_,_,_,_,_,_,_,_,_,_,_,_,_,_,_,_,_,rfl,(by rw [(c1 hc).1];exact hsy),c2,c3,c4,c5,c6,c7,(c1 hc).2⟩ Zo,by simp;omega,ksy.snoc (by show SymAt l j s8;rw [(c1 hc).1];exact hsm)⟩ dO
     | (refine Tcs (fun hc=>?_) (fun hc=>?_)<;>simp(disch:=omega)[hc,e]<;>try simp only [bz] at hc)
     | (exfalso;omega))
 have hfo:FnsOK cfs (fns++fext):=by
   refine ⟨fun r hr=>?_,fun c hc=>(kc c hc).2,?_⟩
   · rcases List.mem_append.1 hr with hr|hr
     · obtain ⟨i,_,h2⟩:=ksy.1 _ (List.mem_map_of_mem hr)
       exact .inl h2.c58.2
     · exact .inr (kf r hr)
   · have h2:(fext.map hdS).filter (fun s=>decide (47∈s))=[]:=List.filter_eq_nil_iff.2 fun x hx=>by
       obtain ⟨r,hr,rfl⟩:=List.mem_map.1 hx
       obtain ⟨c,h1,h2⟩:=kf r hr
       simpa using (kc c h1).2 _ h2
     rw [YB,List.filter_append,h2,List.append_nil]
     exact List.Nodup.sublist List.filter_sublist ksy.2
 simp(disch:=omega)
 refine Lp.rule (fun (i:Nat)=>[fR 2,fR 3,fR 9,(19,.a (.one (.tip 22 fext))),(28,.a (pi i)),o9,(10002,.a (aM0)),(10003,.a (a00)),(10009,.a (.agg [.tip 17 noms,.tip 3 pro,.tip 9 cfs,.tip 22 (fns++fext.take i)]))]) (fun i=>i<=fext.length) (fun i=>fext.length-i) (a₀:=0) Zs (Yd _) ?_
 intro i i0
 by_cases hi:i<fext.length
 · obtain ⟨_,_,_,_,_,_,_,_,_,_,_,_,_,_,_,_,_,_,_,_,_,_,_,_,_,er,_⟩:=hfe.get hi
   have h14:(fns++fext.take i).length<=30000:=by simp;omega
   simp(disch:=omega)[er]
   exact RdN.mk (i+1) (by simp [Ym,Ya hi,er]) hi Zo
 · have e14:fext.take i=fext:=Yg Zo
   simp(disch:=omega)[e14]
   exact hQ _ _ _ _ _ _ k4 k2 hcf (hfn.app hfe Zo) (fun _=>⟨hne,by simp;omega,nd1,nd2,km ▸ kd,fun r hr=>(kc r hr).1,hfo⟩)
theorem ZuG (H:Has S) (HR:HasPr S) {src:LN} {lim:Int} (hlim:lim<ZeA) (hb:Byt src) (hQ: ∀(noms pro cfs fns:LP) (ok:Bool),RowsOf NoR noms->RowsOf PrR pro->RowsOf CoR cfs->RowsOf FuR fns->(ok=true->noms≠[]/\fns.length<=50000/\(nmL noms).Nodup/\(nmL pro).Nodup/\(cfs.map cnP).Nodup/\(∀r∈cfs,Wd (cyR r))/\FnsOK cfs fns)->Q [.agg [.l 17 noms,.l 3 pro,.l 9 cfs,.l 22 fns],pb ok] []):Gives S Zgf [ps src,pi lim] [] Q:=by
 have hE:=hQ [] [] [] [] false RowsOf.nil RowsOf.nil RowsOf.nil RowsOf.nil (fun h=>nomatch h)
 refine .code H.ZxG rfl ?_
 simp(disch:=omega)[Znj]
 refine Zaf (fun hc=>?_) (fun hc=>?_)<;>simp(disch:=omega)[hc]
 ·exact hE
 have hl':src.length<68719476736:=by unfold ZeA at hlim;simp at hc;omega
 have hl:src.length<ZeA:=hl'
 refine Zow H hl hb (fun ls h1=>?_) (fun op n k m a s s2 args ts ls fs h1 h2=>?_)
 ·simp(disch:=omega)
  refine Zue H HR h1 fun noms pro cfs fns c x b1 b2 b3 b4 b5=>?_
  simp(disch:=omega)
  exact hQ _ _ _ _ _ b1 b2 b3 b4 (fun h=>b5 (of_decide_eq_true h))
 ·have h3:0<fs.length:=List.length_pos_iff.2 h1
  simp(disch:=omega)[h1]
  exact hE
end Go.Am.Fe
end
