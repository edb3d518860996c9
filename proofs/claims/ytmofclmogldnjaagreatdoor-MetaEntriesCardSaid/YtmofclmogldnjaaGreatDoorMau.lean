/- Part. -/
import Derived.Test.YtmofclmogldnjaaGreatDoorMat
import Derived.Test.YtmofclmogldnjaaGreatDoorMas
set_option maxRecDepth 999999
set_option maxHeartbeats 0
set_option linter.all false
section
namespace Go.Am.Fe
variable {S:Nat->Option Fn} {Q:List A->List (List C)->Prop}
attribute [local simp] ZbO if_pos if_neg decide_eq_true decide_eq_false Yi Yj ZgF Ops.callv List.idxOf?_cons
def ZLT (H:Has S) (HR:HasPr S) (L:HasL S) {src:List Nat} (hb:Byt src) (hQ: ∀(noms pro cfs fns:List (List P)) (ok:Bool),RowsOf NoR noms->RowsOf PrR pro->RowsOf CoR cfs->RowsOf FuR fns->Q [.agg [.p (.sl 17 noms),.p (.sl 3 pro),.p (.sl 9 cfs),.p (.sl 22 fns)],pb ok] []):Gives S ZHJ [ps src] [] Q:=by
 have hE:=fun ok=>hQ [] [] [] [] ok RowsOf.nil RowsOf.nil RowsOf.nil RowsOf.nil;refine .code L.law15Tableq rfl ?_;simp(disch:=omega)[ZH4];refine Zaf (fun hc=>?_) (fun hc=>?_)<;>simp(disch:=omega)[hc]
 ·exact hE _
 have hl':src.length<68719476736:=by simp at hc;omega
 have hl:src.length<ZeA:=hl';refine Zow H hl hb (fun ls h1=>?_) (fun op n k m a s s2 args ts ls fs h1 h2=>?_)
 ·simp(disch:=omega);refine Zue H HR h1 fun noms pro cfs fns c x b1 b2 b3 b4=>?_;simp(disch:=omega);exact hQ _ _ _ _ _ b1 b2 b3 b4
 ·have h3:0<fs.length:=List.length_pos_iff.2 h1;simp(disch:=omega)[h1];exact hE _
structure Ta where
 a:P
 b:P
 c:P
 d:P
 s:List Nat
 e:P
 f:P
 g:P
 fs:List (List Nat)
 ts:List (List Ty)
abbrev tyr (l:List Ty):List P:=[.sl 4 (Ty.encs l)]
abbrev Ta.row (x:Ta):List P:=[x.a,x.b,x.c,x.d,.str x.s,x.e,x.f,x.g,.sl 1 (strs x.fs),.sl 1 (x.ts.map tyr)]
def Ta.ok (x:Ta):Prop:=x.fs.length<=9223372036854775807/\x.ts.length<=9223372036854775807/\ ∀l∈x.ts,l.length<=9223372036854775807/\Ty.fvs l
def Ta.sm (x:Ta):Prop:=x.fs.length<=50/\x.ts.length<=50/\ ∀l∈x.ts,l.length<=50/\Ty.fws l
inductive Ent (l:List Pr) (x:Ta) (m:List Nat):List Nat->List Ty->Int->Prop
 | none:(∀p∈l,p.s≠x.s)->Ent l x m [] [] 3
 | no (j:Nat) (h:At Pr.s l x.s j):(∀f∈(l[j]'h.1).ms,f.s≠m)->Ent l x m [] [] 3
 | out (j:Nat) (h:At Pr.s l x.s j) (i:Nat):At Me.s (l[j]'h.1).ms m i-> ¬(i<x.fs.length/\i<x.ts.length)->Ent l x m [] [] 3
 | at (j:Nat) (h:At Pr.s l x.s j) (i:Nat) (hi:At Me.s (l[j]'h.1).ms m i) (h1:i<x.fs.length) (h2:i<x.ts.length):Ent l x m x.fs[i] x.ts[i] 0
def At.mem {α:Type} {f:α->List Nat} {l:List α} {s:List Nat} {j:Nat} (h:At f l s j): ∃x∈l,f x=s:=⟨_,Yl h.1,h.2.1⟩
def At.le {α:Type} {f:α->List Nat} {l:List α} {s:List Nat} {j i:Nat} (h:At f l s j) (h':At f l s i):j<=i:=by
 rcases Yt i j with hlt|hge
 ·exfalso;refine h.2.2 (l[i]'h'.1) ?_ h'.2.1;rw [List.mem_take_iff_getElem];exact ⟨i,by have:=h.1;omega,rfl⟩
 ·exact hge
def At.uniq {α:Type} {f:α->List Nat} {l:List α} {s:List Nat} {j i:Nat} (h:At f l s j) (h':At f l s i):j=i:=Nat.le_antisymm (h.le h') (h'.le h)
def Ent.uniq {l:List Pr} {x:Ta} {m s s':List Nat} {t t':List Ty} {e e':Int} (h:Ent l x m s t e) (h':Ent l x m s' t' e'):s=s'/\t=t'/\e=e':=by
 cases h with
 | none h=>
   cases h' with
   | none=>exact ⟨rfl,rfl,rfl⟩
   | no j hj=>obtain ⟨p,h1,h2⟩:=hj.mem;exact absurd h2 (h p h1)
   | out j hj=>obtain ⟨p,h1,h2⟩:=hj.mem;exact absurd h2 (h p h1)
   | «at» j hj=>obtain ⟨p,h1,h2⟩:=hj.mem;exact absurd h2 (h p h1)
 | no j hj h=>
   cases h' with
   | none h2=>exact ⟨rfl,rfl,rfl⟩
   | no=>exact ⟨rfl,rfl,rfl⟩
   | out=>exact ⟨rfl,rfl,rfl⟩
   | «at» j' hj' i hi=>obtain rfl:=hj.uniq hj';obtain ⟨p,h1,h2⟩:=hi.mem;exact absurd h2 (h p h1)
 | out j hj i hi h=>
   cases h' with
   | none h2=>exact ⟨rfl,rfl,rfl⟩
   | no=>exact ⟨rfl,rfl,rfl⟩
   | out=>exact ⟨rfl,rfl,rfl⟩
   | «at» j' hj' i' hi' h1 h2=>obtain rfl:=hj.uniq hj';obtain rfl:=hi.uniq hi';exact absurd ⟨h1,h2⟩ h
 | «at» j hj i hi h1 h2=>
   cases h' with
   | none h=>obtain ⟨p,h1,h2⟩:=hj.mem;exact absurd h2 (h p h1)
   | no j' hj' h=>obtain rfl:=hj.uniq hj';obtain ⟨p,h1,h2⟩:=hi.mem;exact absurd h2 (h p h1)
   | out j' hj' i' hi' h=>obtain rfl:=hj.uniq hj';obtain rfl:=hi.uniq hi';exact absurd ⟨h1,h2⟩ h
   | «at» j' hj' i' hi'=>obtain rfl:=hj.uniq hj';obtain rfl:=hi.uniq hi';exact ⟨rfl,rfl,rfl⟩
def ZMk {l:List (List Nat)} {j:Nat} (h:j<(strs l).length):(strs l)[j]=[.str (l[j]'(by simpa [strs] using h))]:=by simp [strs]
def ZKJ {aw:Nat} (N:HN S aw) {n c f:List (List P)} {l:List Pr} (hl:Ok Pr.ok l) {x:Ta} (hx:x.sm) {m:List Nat} (hQ: ∀s t e,Ent l x m s t e->Q [ps s,.one (.p (.sl 4 (Ty.encs t))),pi e] []):
  Gives S ZIa [.agg (x.row.map .p),.agg (mo n c f l),ps m] [] Q:=by
 obtain ⟨x1,x2,x3⟩:=hx;have g1:(strs x.fs).length=x.fs.length:=by simp [strs]
 refine .code N.metaEntry rfl ?_;simp(disch:=omega)[ZIH];refine ZJa N.toHasL hl (fun h=>?_) (fun j h=>?_)
 ·simp(disch:=omega)[cloR];refine ZFW N.slicesIndexFuncLApiMethodApiMethod (l:=([]:List Me)) (w:=Me.row) Zs (fun _ _=>rfl) (os:=[[.p (.str m)]]) (p:=fun g=>dq (g.s=m)) (Pass.dat rfl) PassR.nil (by simp [PassR]) (fun g hg Q hQ=>absurd hg Zs) (fun hno=>?_) (fun i hi hi1 hi2=>absurd hi Zs);simp(disch:=omega);exact hQ _ _ _ (.none h)
 ·simp(disch:=omega)[cloR];refine ZFW N.slicesIndexFuncLApiMethodApiMethod (l:=(l[j]'h.1).ms) (w:=Me.row) (hl.get h.1).2.1 (fun _ _=>rfl) (os:=[[.p (.str m)]]) (p:=fun g=>dq (g.s=m)) (Pass.dat rfl) PassR.nil (by simp [PassR]) (fun g hg Q hQ=>?_) (fun hno=>?_) (fun i hi hi1 hi2=>?_)
  ·simp [ZDB];refine .code N.metaEntryX1 rfl ?_;simp(disch:=omega)[ZH3];by_cases he:g.s=m
   ·rw [ZDz he] at hQ;simp(disch:=omega)[he];exact hQ
   ·rw [ZDy he] at hQ;simp(disch:=omega)[he];exact hQ
  ·simp(disch:=omega);exact hQ _ _ _ (.no j h fun g hg=>ZEg.1 (hno g hg))
  ·have hat:At Me.s (l[j]'h.1).ms m i:=⟨hi,ZD3.1 hi1,fun y hy=>ZEg.1 (hi2 y hy)⟩
   have hml:=(hl.get h.1).2.1;by_cases h1:i<x.fs.length
   ·by_cases h2:i<x.ts.length
    ·have r1:=ZMk (l:=x.fs) (j:=i) Zo;simp(disch:=omega)[h1,h2,r1];refine N.clo ?_ ?_
     ·have q:=(x3 _ (Yl h2)).1;have e:=Ty.encs_length (a:=x.ts[i]);omega
     ·simp(disch:=omega);exact hQ _ _ _ (.at j h i hat h1 h2)
    ·simp(disch:=omega)[h1,h2];exact hQ _ _ _ (.out j h i hat Zo)
   ·simp(disch:=omega)[h1];exact hQ _ _ _ (.out j h i hat Zo)
def ZLV (H:Has S) (N:HasL S) {n c f:List (List P)} {l:List Pr} (hl:Ok Pr.ok l) {x:Ta} (hx:x.sm) {m:List Nat} (hQ: ∀s t e,Ent l x m s t e->Q [ps s,.one (.p (.sl 4 (Ty.encs t))),pi e] []):
  Gives S ZIV [.agg (x.row.map .p),.agg (mo n c f l),ps m] [] Q:=by
 obtain ⟨x1,x2,x3⟩:=hx;have g1:(strs x.fs).length=x.fs.length:=by simp [strs]
 have g2:=hl.1;refine .code N.zpEntry rfl ?_;simp(disch:=omega)[ZJt];refine ZLN N hl.1 (fun h=>?_) (fun j h=>?_)
 ·simp(disch:=omega);exact hQ _ _ _ (.none h)
 ·simp(disch:=omega);have hj:=h.1;have hml:=(hl.get h.1).2.1;refine Lp.rule (fun (i:Nat)=>[(2,.a (ps m)),(3,.a (.one (.ref ⟨true,10003,0⟩))),(4,.a (.one (.ref ⟨true,10004,0⟩))),(9,.a (pi j)),(10,.a (pi i)),(9999,.objs []),(10003,.a (.agg (x.row.map .p))),(10004,.a (.agg (mo n c f l)))]) (fun i=>i<=l[j].ms.length/\ ∀y∈l[j].ms.take i,y.s≠m) (fun i=>l[j].ms.length-i) (a₀:=0) Zs ⟨Yd _,by simp⟩ ?_;rintro i ⟨k1,k2⟩;by_cases hi:i<l[j].ms.length
  ·by_cases hs:l[j].ms[i].s=m
   ·have hat:At Me.s l[j].ms m i:=⟨hi,hs,k2⟩
    simp(disch:=omega)[hs];by_cases h1:i<x.fs.length
    ·by_cases h2:i<x.ts.length
     ·have r1:=ZMk (l:=x.fs) (j:=i) Zo;simp(disch:=omega)[h1,h2,r1];refine ZOf H (by have q:=(x3 _ (Yl h2)).1;omega) (x3 _ (Yl h2)).2 ?_;simp(disch:=omega);exact hQ _ _ _ (.at j h i hat h1 h2)
     ·simp(disch:=omega)[h1,h2];exact hQ _ _ _ (.out j h i hat Zo)
    ·simp(disch:=omega)[h1];exact hQ _ _ _ (.out j h i hat Zo)
   ·simp(disch:=omega)[hs];exact RdN.mk (i+1) rfl ⟨hi,ZEj hi k2 hs⟩ Zo
  ·simp(disch:=omega);rw [Yg Zo] at k2;exact hQ _ _ _ (.no j h k2)
def ZID (H:Has S) (HR:HasPr S) (N:HN S ZHX) {src:List Nat} (hb:Byt src) {x:Ta} (hx:x.ok) {m:List Nat} (hQ:Q [pb true] []):Gives S ZHe [ps src,.agg (x.row.map .p),ps m] [] Q:=by
 obtain ⟨x1,x2,x3⟩:=hx;have g1:(strs x.fs).length=x.fs.length:=by simp [strs]
 refine .code N.law15MetaEntries rfl ?_;simp(disch:=omega)[ZHo];refine ZLT H HR N.toHasL hb fun noms pro cfs fns ok b1 b2 b3 b4=>?_;obtain ⟨l,rfl,hl⟩:=b2.prs;have fin: ∀{Q:List A->List (List C)->Prop},Q [pb true] []->Gives S ZHX [] [] Q:=N.aw;cases ok with
 | false=>
   simp(disch:=omega);refine fin ?_;simp(disch:=omega);exact hQ
 | true=>
   by_cases c1:x.fs.length<=50
   · by_cases c2:x.ts.length<=50
     · by_cases c3:m.length<=100
       · simp(disch:=omega)[c1,c2,c3];refine Lp.rule (fun (j:Nat)=>[(2,.a (ps m)),(4,.a (.one (.ref ⟨true,10004,0⟩))),(7,.a (.one (.ref ⟨true,10007,0⟩))),(9,.a (pi j)),(9999,.objs []),(10004,.a (.agg (x.row.map .p))),(10007,.a (.agg (mo noms cfs fns l)))]) (fun j=>j<=x.ts.length/\ ∀t∈x.ts.take j,t.length<=50/\Ty.fws t) (fun j=>x.ts.length-j) (a₀:=0) Zs ⟨Yd _,by simp⟩ ?_;rintro j ⟨k1,k2⟩;by_cases hj:j<x.ts.length
         · have q:=x3 _ (Yl hj);have e1:(Ty.encs x.ts[j]).length=x.ts[j].length:=Ty.encs_length;by_cases c4:x.ts[j].length<=50
           · simp(disch:=omega)[c4];refine ZNh H N.toHasL q.1 q.2 fun b hbt=>?_;cases b with
             | true=>
               simp(disch:=omega);refine RdN.mk (j+1) rfl ⟨hj,ZEj hj k2 ⟨c4,?_⟩⟩ Zo;exact Ty.mem_fws fun t ht=>Ty.sz_fw t (Yy (hbt rfl t ht) Zd)
             | false=>
               simp(disch:=omega);refine fin ?_;simp(disch:=omega);exact hQ
           · simp(disch:=omega)[c4];refine fin ?_;simp(disch:=omega);exact hQ
         · rw [Yg Zo] at k2;have hsm:x.sm:=⟨c1,c2,k2⟩
           simp(disch:=omega);refine ZKJ N hl hsm fun s t e h1=>?_;simp(disch:=omega);refine ZLV H N.toHasL hl hsm fun s' t' e' h2=>?_;obtain ⟨rfl,rfl,rfl⟩:=h1.uniq h2;simp(disch:=omega);have ht:t.length<=100000/\Ty.fws t:=by
             cases h1 with
             | none=>exact ⟨by simp,trivial⟩
             | no=>exact ⟨by simp,trivial⟩
             | out=>exact ⟨by simp,trivial⟩
             | «at» j h i hi y1 y2=>
               have:=k2 _ (Yl y2);exact ⟨by omega,this.2⟩
           refine ZN9 H Zo (Ty.fws_fvs _ ht.2) ?_;simp(disch:=omega);refine fin ?_;simp(disch:=omega);exact hQ
       · simp(disch:=omega)[c1,c2,c3];refine fin ?_;simp(disch:=omega);exact hQ
     · simp(disch:=omega)[c1,c2];refine fin ?_;simp(disch:=omega);exact hQ
   · simp(disch:=omega)[c1];refine fin ?_;simp(disch:=omega);exact hQ
end Go.Am.Fe
end
