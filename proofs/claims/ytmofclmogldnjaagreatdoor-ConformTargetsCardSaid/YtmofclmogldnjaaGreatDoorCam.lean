/- Part. -/
import Derived.Test.YtmofclmogldnjaaGreatDoorCal
set_option maxRecDepth 999999
set_option maxHeartbeats 0
set_option linter.all false
section
namespace Go.Am.Fe
variable {S:SF} {Q:QF}
attribute [local simp] ZbO if_pos if_neg decide_eq_true decide_eq_false Yi Yj ZgF Zox
def Zp3 (H:Has S) (HP:HasP S) {mm:Nat} {n' k m a:Int} {s s2:LN} {args ts ls rows:LP} (hw:wt rows+80000*mm<=2000000000) (hr:ZaL rows)
   (hn:IsNd mm (rN 2 s n' k s2 m args ts ls a)) (hQ: ∀rows':LP,ZaL rows'->wt rows'<=wt rows+80000*mm->Q [.one (.l 1 rows')] []):Gives S Zbk [.one (.tip 1 rows),aN 2 s n' k s2 m args ts ls a] [] Q:=by
 have hT:=Zdj H HP (mm+1);obtain ⟨m1,m2,m3,g1,⟨s1,s3⟩,g3,g4,g5,g6,g7,g7'⟩:=hn.inv;have hlen:=Zav (a:=rows);have g8:=g5.len;have g10:1<=m1:=by obtain ⟨m0,g1,_⟩:=g3.inv;omega
 obtain ⟨w,hw0⟩: ∃w,w=wt rows:=⟨_,rfl⟩
 have hn2:=hn;obtain ⟨f,f0,f1,f2⟩:=g5.parts;have g9:=f1 _ (Yc _);obtain ⟨l,rfl,hg,hsz⟩:=g5;have k1:=Za2 (a:=[8]) (b:=[10]) Zd (l:=l);have k2:=Za2 (a:=[8,10]) (b:=[11]) Zd (l:=l);have k3:=Za2 (a:=[8,10,11]) (b:=[12]) Zd (l:=l);have k4:=Za2 (a:=[8,10,11,12]) (b:=[20]) Zd (l:=l);have k5:=Zot (a:=[8,10,11,12,20]) (l:=l);simp only [jD,YP] at k1 k2 k3 k4;have k6:=ZiK (a:=[8]) (b:=[12]) Zd (l:=l);refine .code H.Zdv rfl ?_;simp(disch:=omega)[ZbH]
 repeat' (first
   | exact hQ _ wS wO
   | exact RdS Zo wS wO
   | (refine ZeO H HP wO wS p2 (fun rows r6 r7=>?_);have r9:=Zav (a:=rows);(try simp only [wts] at r7);simp(disch:=omega)[pe])
   | (refine Zbs H wO wS g3 (fun rows r6 r7=>?_);have r9:=Zav (a:=rows);(try simp only [wts] at r7);simp(disch:=omega))
   | (refine Zc2 H hg Zo wO wS (fun rows r6 r7=>?_);have r9:=Zav (a:=rows);(try simp only [wts] at r7);simp(disch:=omega))
   | (refine Zcx H hg Zo wO wS (fun rows r6 r7=>?_);have r9:=Zav (a:=rows);(try simp only [wts] at r7);simp(disch:=omega))
   | (refine Zb0 H HP wO wS hn2 (fun rows r6 r7=>?_);have r9:=Zav (a:=rows);(try simp only [wts] at r7);simp(disch:=omega))
   | (refine Lp.strs (key:=5) ((Nd.encs l).length) (w+40000*m1+40000*osz [8] l+40000*osz [12] l+20000) f wS wO (fun rows j r1 r2 r3=>?_)
      have r4:=Zav (a:=rows);have r5:=f1 j r3;by_cases hj:j<(Nd.encs l).length;rotate_left;obtain rfl:j=(Nd.encs l).length:=by omega
      simp(disch:=omega);rotate_left;obtain ⟨mj,p1,p2⟩:=f2 j hj;obtain ⟨op2,n2,k2',mm2,a2,s4,s5,args2,ts2,ls2,pe⟩:=p2.form;rw [pe] at p2;have p3:=f1 (j+1) hj;obtain ⟨m4,m5,m6,q1,q2,q3,q4,q5,_⟩:=p2.inv;have q6:=q2.1;have q7:=q2.2;have q8:1<=m4:=by obtain ⟨m0,g1,_⟩:=q3.inv;omega
      simp(disch:=omega)[pe])
   | (refine Zaf (fun hc=>?_) (fun hc=>?_)<;>simp(disch:=omega)[hc]<;>try simp only [Zx3] at hc)
   | (refine Zam (fun hc=>?_) (fun hc=>?_)<;>simp(disch:=omega)[hc]<;>try simp only [Zx3] at hc)
   | (exfalso;omega))
def Zqf (H:Has S) (HP:HasP S) {mm:Nat} {n' k m a:Int} {s s2:LN} {args ts ls rows:LP} (hw:wt rows+80000*mm<=2000000000) (hr:ZaL rows)
   (hn:IsNd mm (rN 3 s n' k s2 m args ts ls a)) (hQ: ∀rows':LP,ZaL rows'->wt rows'<=wt rows+80000*mm->Q [.one (.l 1 rows')] []):Gives S Zbk [.one (.tip 1 rows),aN 3 s n' k s2 m args ts ls a] [] Q:=by
 have hT:=Zdj H HP (mm+1);obtain ⟨m1,m2,m3,g1,⟨s1,s3⟩,g3,g4,g5,g6,g7,g7'⟩:=hn.inv;have hlen:=Zav (a:=rows);have g8:=g5.len;have g10:1<=m1:=by obtain ⟨m0,g1,_⟩:=g3.inv;omega
 obtain ⟨w,hw0⟩: ∃w,w=wt rows:=⟨_,rfl⟩
 have hn2:=hn;obtain ⟨f,f0,f1,f2⟩:=g5.parts;have g9:=f1 _ (Yc _);obtain ⟨l,rfl,hg,hsz⟩:=g5;have k1:=Za2 (a:=[8]) (b:=[10]) Zd (l:=l);have k2:=Za2 (a:=[8,10]) (b:=[11]) Zd (l:=l);have k3:=Za2 (a:=[8,10,11]) (b:=[12]) Zd (l:=l);have k4:=Za2 (a:=[8,10,11,12]) (b:=[20]) Zd (l:=l);have k5:=Zot (a:=[8,10,11,12,20]) (l:=l);simp only [jD,YP] at k1 k2 k3 k4;have k6:=ZiK (a:=[8]) (b:=[12]) Zd (l:=l);refine .code H.Zdv rfl ?_;simp(disch:=omega)[ZbH]
 repeat' (first
   | exact hQ _ wS wO
   | exact RdS Zo wS wO
   | (refine ZeO H HP wO wS p2 (fun rows r6 r7=>?_);have r9:=Zav (a:=rows);(try simp only [wts] at r7);simp(disch:=omega)[pe])
   | (refine Zbs H wO wS g3 (fun rows r6 r7=>?_);have r9:=Zav (a:=rows);(try simp only [wts] at r7);simp(disch:=omega))
   | (refine Zc2 H hg Zo wO wS (fun rows r6 r7=>?_);have r9:=Zav (a:=rows);(try simp only [wts] at r7);simp(disch:=omega))
   | (refine Zcx H hg Zo wO wS (fun rows r6 r7=>?_);have r9:=Zav (a:=rows);(try simp only [wts] at r7);simp(disch:=omega))
   | (refine Zb0 H HP wO wS hn2 (fun rows r6 r7=>?_);have r9:=Zav (a:=rows);(try simp only [wts] at r7);simp(disch:=omega))
   | (refine Lp.strs (key:=5) ((Nd.encs l).length) (w+40000*m1+40000*osz [8] l+40000*osz [12] l+20000) f wS wO (fun rows j r1 r2 r3=>?_)
      have r4:=Zav (a:=rows);have r5:=f1 j r3;by_cases hj:j<(Nd.encs l).length;rotate_left;obtain rfl:j=(Nd.encs l).length:=by omega
      simp(disch:=omega);rotate_left;obtain ⟨mj,p1,p2⟩:=f2 j hj;obtain ⟨op2,n2,k2',mm2,a2,s4,s5,args2,ts2,ls2,pe⟩:=p2.form;rw [pe] at p2;have p3:=f1 (j+1) hj;obtain ⟨m4,m5,m6,q1,q2,q3,q4,q5,_⟩:=p2.inv;have q6:=q2.1;have q7:=q2.2;have q8:1<=m4:=by obtain ⟨m0,g1,_⟩:=q3.inv;omega
      simp(disch:=omega)[pe])
   | (refine Zaf (fun hc=>?_) (fun hc=>?_)<;>simp(disch:=omega)[hc]<;>try simp only [Zx3] at hc)
   | (refine Zam (fun hc=>?_) (fun hc=>?_)<;>simp(disch:=omega)[hc]<;>try simp only [Zx3] at hc)
   | (exfalso;omega))
def Zpv (H:Has S) (HP:HasP S) {mm:Nat} {n' k m a:Int} {s s2:LN} {args ts ls rows:LP} (hw:wt rows+80000*mm<=2000000000) (hr:ZaL rows)
   (hn:IsNd mm (rN 4 s n' k s2 m args ts ls a)) (hQ: ∀rows':LP,ZaL rows'->wt rows'<=wt rows+80000*mm->Q [.one (.l 1 rows')] []):Gives S Zbk [.one (.tip 1 rows),aN 4 s n' k s2 m args ts ls a] [] Q:=by
 have hT:=Zdj H HP (mm+1);obtain ⟨m1,m2,m3,g1,⟨s1,s3⟩,g3,g4,g5,g6,g7,g7'⟩:=hn.inv;have hlen:=Zav (a:=rows);have g8:=g5.len;have g10:1<=m1:=by obtain ⟨m0,g1,_⟩:=g3.inv;omega
 obtain ⟨w,hw0⟩: ∃w,w=wt rows:=⟨_,rfl⟩
 have hn2:=hn;obtain ⟨f,f0,f1,f2⟩:=g5.parts;have g9:=f1 _ (Yc _);obtain ⟨l,rfl,hg,hsz⟩:=g5;have k1:=Za2 (a:=[8]) (b:=[10]) Zd (l:=l);have k2:=Za2 (a:=[8,10]) (b:=[11]) Zd (l:=l);have k3:=Za2 (a:=[8,10,11]) (b:=[12]) Zd (l:=l);have k4:=Za2 (a:=[8,10,11,12]) (b:=[20]) Zd (l:=l);have k5:=Zot (a:=[8,10,11,12,20]) (l:=l);simp only [jD,YP] at k1 k2 k3 k4;have k6:=ZiK (a:=[8]) (b:=[12]) Zd (l:=l);refine .code H.Zdv rfl ?_;simp(disch:=omega)[ZbH]
 repeat' (first
   | exact hQ _ wS wO
   | exact RdS Zo wS wO
   | (refine ZeO H HP wO wS p2 (fun rows r6 r7=>?_);have r9:=Zav (a:=rows);(try simp only [wts] at r7);simp(disch:=omega)[pe])
   | (refine Zbs H wO wS g3 (fun rows r6 r7=>?_);have r9:=Zav (a:=rows);(try simp only [wts] at r7);simp(disch:=omega))
   | (refine Zc2 H hg Zo wO wS (fun rows r6 r7=>?_);have r9:=Zav (a:=rows);(try simp only [wts] at r7);simp(disch:=omega))
   | (refine Zcx H hg Zo wO wS (fun rows r6 r7=>?_);have r9:=Zav (a:=rows);(try simp only [wts] at r7);simp(disch:=omega))
   | (refine Zb0 H HP wO wS hn2 (fun rows r6 r7=>?_);have r9:=Zav (a:=rows);(try simp only [wts] at r7);simp(disch:=omega))
   | (refine Lp.strs (key:=5) ((Nd.encs l).length) (w+40000*m1+40000*osz [8] l+40000*osz [12] l+20000) f wS wO (fun rows j r1 r2 r3=>?_)
      have r4:=Zav (a:=rows);have r5:=f1 j r3;by_cases hj:j<(Nd.encs l).length;rotate_left;obtain rfl:j=(Nd.encs l).length:=by omega
      simp(disch:=omega);rotate_left;obtain ⟨mj,p1,p2⟩:=f2 j hj;obtain ⟨op2,n2,k2',mm2,a2,s4,s5,args2,ts2,ls2,pe⟩:=p2.form;rw [pe] at p2;have p3:=f1 (j+1) hj;obtain ⟨m4,m5,m6,q1,q2,q3,q4,q5,_⟩:=p2.inv;have q6:=q2.1;have q7:=q2.2;have q8:1<=m4:=by obtain ⟨m0,g1,_⟩:=q3.inv;omega
      simp(disch:=omega)[pe])
   | (refine Zaf (fun hc=>?_) (fun hc=>?_)<;>simp(disch:=omega)[hc]<;>try simp only [Zx3] at hc)
   | (refine Zam (fun hc=>?_) (fun hc=>?_)<;>simp(disch:=omega)[hc]<;>try simp only [Zx3] at hc)
   | (exfalso;omega))
end Go.Am.Fe
end
