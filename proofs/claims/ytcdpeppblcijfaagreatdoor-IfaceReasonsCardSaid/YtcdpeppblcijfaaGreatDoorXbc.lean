/- Part. -/
import Derived.Test.YtcdpeppblcijfaaGreatDoorXbb
set_option maxRecDepth 999999
set_option maxHeartbeats 0
set_option linter.all false
section
namespace Go.Am.Fe
variable {S:SF} {Q:QF}
attribute [local simp] ZbO if_pos if_neg decide_eq_true decide_eq_false Yi Yj ZgF Ops.callv List.idxOf?_cons
def Fu.ent_symm {f g:Fu} (h:f.ent g) (hf:f.gs.Nodup) (hg:g.kn) (hg2:g.okn):g.ent f:=by
 obtain ⟨a1,a2,a3,a4,a5,a6,a7⟩:=h
 obtain ⟨⟨_,_,g3,g4,g5,g6⟩,_⟩:=hg2
 have hm:Mid g.gs f.gs g.gs:=⟨a3.symm,a3,hf⟩
 refine ⟨a1.symm,a2.symm,a3.symm,?_,?_,?_,?_⟩
 ·rw [a4,hm.res hg.rs,ZEf fun x hx=>Re.put_id (g3.2 x hx)]
 ·rw [ZJS,a5,hm.pas hg.ps,ZEf fun x hx=>Pa.put_id (g4.2 x hx)]
 ·rw [a6,Ty.put_put hm.a hm.b hm.d hg.r,Ty.put_id g5]
 ·rw [a7,Ty.put_put hm.a hm.b hm.d hg.e,Ty.put_id g6]
abbrev Fu.okk (f:Fu):Prop:=f.okn/\f.kn
def Fu.ent.symm' {f g:Fu} (h:f.ent g) (hf:f.kn) (hg:g.okk):g.ent f:=Fu.ent_symm h hf.nd hg.2 hg.1
noncomputable def gUp (m1 m2:Mo) (b:List Rz) (i:Nat):List Rz:=b++((m1.freeTo i).filter fun f=>dq (m2.lacks f)).map fun f=>(7,ZDJ [f.s])
noncomputable def oUp (m1 m2:Mo) (b:List Rz) (i:Nat):List Rz:=b++((m2.freeTo i).filter fun f=>dq (m1.lacks f) && m1.beside f).map fun f=>(8,ZDJ [f.s])
section
variable {m1 m2:Mo} {b:List Rz} {i:Nat}
def ZJH:gUp m1 m2 b 0=b:=by simp [gUp,Mo.freeTo]
def ZKc (h: ¬m1.isFree i):gUp m1 m2 b (i+1)=gUp m1 m2 b i:=by rw [gUp,Mo.freeTo_no h,gUp]
def ZJ9 (hi:i<m1.fs.length) (h:m1.isFree i) (hl:m2.lacks m1.fs[i]):gUp m1 m2 b (i+1)=gUp m1 m2 b i++[(7,m1.fs[i].s)]:=by
 rw [gUp,Mo.freeTo_yes hi h,List.filter_append,YB,gUp,Yu]
 simp [ZDz hl,dot1]
def ZKb (hi:i<m1.fs.length) (h:m1.isFree i) (hl: ¬m2.lacks m1.fs[i]):gUp m1 m2 b (i+1)=gUp m1 m2 b i:=by
 rw [gUp,Mo.freeTo_yes hi h,List.filter_append,YB,gUp]
 simp [ZDy hl]
def ZJF:gUp m1 m2 b m1.fs.length=b++ZEb m1 m2 m1.free.length:=by rw [gUp,ZEb,List.take_length,Mo.free]
def ZJB:(gUp m1 m2 b i).length<=b.length+i:=by
 rw [gUp,YE,Yh]
 have:=List.length_filter_le (fun f=>dq (m2.lacks f)) (m1.freeTo i)
 have:=Mo.freeTo_len (m:=m1) (n:=i)
 omega
def ZJR:oUp m1 m2 b 0=b:=by simp [oUp,Mo.freeTo]
def ZJX (h: ¬m2.isFree i):oUp m1 m2 b (i+1)=oUp m1 m2 b i:=by rw [oUp,Mo.freeTo_no h,oUp]
def ZJZ (hi:i<m2.fs.length) (h:m2.isFree i) (hl:m1.lacks m2.fs[i]) (hb:m1.beside m2.fs[i]=true):oUp m1 m2 b (i+1)=oUp m1 m2 b i++[(8,m2.fs[i].s)]:=by
 rw [oUp,Mo.freeTo_yes hi h,List.filter_append,YB,oUp,Yu]
 simp [ZDz hl,hb,dot1]
def ZJA (hi:i<m2.fs.length) (h:m2.isFree i) (hl: ¬(m1.lacks m2.fs[i]/\m1.beside m2.fs[i]=true)):oUp m1 m2 b (i+1)=oUp m1 m2 b i:=by
 have:(dq (m1.lacks m2.fs[i]) && m1.beside m2.fs[i])=false:=by
  by_cases h1:m1.lacks m2.fs[i]
  ·cases h2:m1.beside m2.fs[i]
   ·rw [Bool.and_false]
   ·exact absurd ⟨h1,h2⟩ hl
  ·rw [ZDy h1,Bool.false_and]
 rw [oUp,Mo.freeTo_yes hi h,List.filter_append,YB,oUp]
 simp [this]
def ZJ6:oUp m1 m2 b m2.fs.length=b++ZEa m1 m2 m2.free.length:=by rw [oUp,ZEa,List.take_length,Mo.free]
def ZJ3:(oUp m1 m2 b i).length<=b.length+i:=by
 rw [oUp,YE,Yh]
 have:=List.length_filter_le (fun f=>dq (m1.lacks f) && m1.beside f) (m2.freeTo i)
 have:=Mo.freeTo_len (m:=m2) (n:=i)
 omega
end
def ZJh {m:Mo} {i j:Nat} (hi:i<m.fs.length) (hj:At Fu.s m.fs m.fs[i].s j):m.isFree i↔j=i/\m.fs[i].s∉m.cs.flatMap Co.fs:=by
 rw [(ZHN hi hj).1]
 constructor
 ·rintro ⟨_,⟨_,_,h2⟩,h3⟩
  exact ⟨⟨hi,h2⟩,fun hm=>by obtain ⟨c,hc,hs⟩:=List.mem_flatMap.1 hm;exact h3 c hc hs⟩
 ·rintro ⟨⟨_,h2⟩,h3⟩
  exact ⟨hi,⟨hi,rfl,h2⟩,fun c hc hs=>h3 (List.mem_flatMap.2 ⟨c,hc,hs⟩)⟩
def ZJV (H:Has S) (R:HR S) {m1 m2:Mo} (h1:Ok Fu.okk m1.fs) (h2:Ok Fu.okk m2.fs) (g1:Ok Co.okn m1.cs) (g2:Ok Co.okn m2.cs) {b:List Rz} (hb:b.length<=60000000000)
   (hQ:Q [] [[.tip 2 (rzs (b++ZEb m1 m2 m1.free.length++ZEa m1 m2 m2.free.length))]]):Gives S ZHf [.one (.ref ⟨false,0,0⟩),.agg m1.cs',.agg m2.cs'] [[.tip 2 (rzs b)]] Q:=by
 have n1:=h1.1
 have n2:=h2.1
 have k1:=h1.imp fun _ h=>h.1
 have k2:=h2.imp fun _ h=>h.1
 have b1:(m1.fs.map Fu.row).length=m1.fs.length:=Yh _
 have b2:(m2.fs.map Fu.row).length=m2.fs.length:=Yh _
 have w1:=ZIl g1 (i:=m1.cs.length)
 have w2:=ZIl g2 (i:=m2.cs.length)
 rw [ZIE,strs,Yh] at w1 w2
 obtain ⟨W1,e1⟩: ∃W1,W1=m1.cs.flatMap Co.fs:=⟨_,rfl⟩
 obtain ⟨W2,e2⟩: ∃W2,W2=m2.cs.flatMap Co.fs:=⟨_,rfl⟩
 rw [<-e1] at w1
 rw [<-e2] at w2
 refine .code R.zuReasonsFuncsq rfl ?_
 simp(disch:=omega)[ZHq]
 refine ZIj R g1 ?_
 rw [<-e1]
 simp(disch:=omega)
 refine ZIj R g2 ?_
 rw [<-e2]
 simp(disch:=omega)
 refine Lp.rule (fun (i:Nat)=>[(0,.a (.one (.ref ⟨false,0,0⟩))),(4,.a (.one (.ref ⟨true,10004,0⟩))),(5,.a (.one (.ref ⟨true,10005,0⟩))),(6,.a (.one (.l 1 (strs W1)))),(7,.a (.one (.l 1 (strs W2)))),(8,.a (pi i)),(9999,.objs [[.tip 2 (rzs (gUp m1 m2 b i))]]),(10004,.a (.agg m1.cs')),(10005,.a (.agg m2.cs'))]) (fun i=>i<=m1.fs.length) (fun i=>m1.fs.length-i) (a₀:=0) (by simp [ZJH]) (Yd _) ?_
 intro i l1
 by_cases hi:i<m1.fs.length
 · have r1:=ZG2 (f:=Fu.row) (l:=m1.fs) (j:=i) Zo
   have hlen:=ZJB (m1:=m1) (m2:=m2) (b:=b) (i:=i)
   have hx:=h1.get hi
   simp(disch:=omega)[r1]
   refine ZKd R n1 (fun h=>absurd rfl (h _ (Yl hi))) fun j hj=>?_
   have hfree:=ZJh hi hj
   rw [<-e1] at hfree
   by_cases hji:j=i
   rotate_left
   · have hji': ¬(j:Int)=i:=by omega
     simp(disch:=omega)[hji,hji']
     exact RdN.mk (i+1) (by rw [ZKc fun h=>hji (hfree.1 h).1];simp) hi Zo
   subst hji
   simp(disch:=omega)[r1]
   refine ZIG H Zo (fun hn=>?_) (fun k hk ek _=>?_)
   rotate_left
   · have hk0: ¬((k:Int)<0):=by omega
     simp(disch:=omega)[hk0]
     exact RdN.mk (j+1) (by rw [ZKc fun h=>(hfree.1 h).2 (ek ▸ Yl hk)];simp) hi Zo
   have hf:=hfree.2 ⟨rfl,hn⟩
   simp(disch:=omega)[r1]
   refine ZJw H R k2 hx.1 (fun h=>?_) (fun k hk h _=>?_)
   · have ey:=ZJ9 (m2:=m2) (b:=b) hi hf fun g hg he=>h g hg (he.symm' hx.2 (h2.2 g hg))
     simp(disch:=omega)[r1]
     refine ZIf R (by rw [YE,List.length_singleton];omega) ?_
     simp(disch:=omega)
     exact RdN.mk (j+1) (by rw [ey];simp) hi Zo
   · have ey:=ZKb (m2:=m2) (b:=b) hi hf fun hl=>hl _ (Yl hk) (h.symm' (h2.get hk).2 hx)
     simp(disch:=omega)[r1]
     exact RdN.mk (j+1) (by rw [ey];simp) hi Zo
 rw [show i=m1.fs.length by omega,ZJF]
 have hlen:=ZJB (m1:=m1) (m2:=m2) (b:=b) (i:=m1.fs.length)
 rw [ZJF] at hlen
 generalize b++ZEb m1 m2 m1.free.length=b' at hlen hQ⊢
 simp(disch:=omega)
 refine Lp.rule (fun (i:Nat)=>[(0,.a (.one (.ref ⟨false,0,0⟩))),(4,.a (.one (.ref ⟨true,10004,0⟩))),(5,.a (.one (.ref ⟨true,10005,0⟩))),(7,.a (.one (.l 1 (strs W2)))),(12,.a (pi i)),(9999,.objs [[.tip 2 (rzs (oUp m1 m2 b' i))]]),(10004,.a (.agg m1.cs')),(10005,.a (.agg m2.cs'))]) (fun i=>i<=m2.fs.length) (fun i=>m2.fs.length-i) (a₀:=0) (by simp [ZJR]) (Yd _) ?_
 clear l1 hi i
 intro i l1
 by_cases hi:i<m2.fs.length
 · have r1:=ZG2 (f:=Fu.row) (l:=m2.fs) (j:=i) Zo
   have hlen2:=ZJ3 (m1:=m1) (m2:=m2) (b:=b') (i:=i)
   have hx:=h2.get hi
   have xs:=hx.1.1.1.1
   simp(disch:=omega)[r1]
   refine ZKd R n2 (fun h=>absurd rfl (h _ (Yl hi))) fun j hj=>?_
   have hfree:=ZJh hi hj
   rw [<-e2] at hfree
   by_cases hji:j=i
   rotate_left
   · have hji': ¬(j:Int)=i:=by omega
     simp(disch:=omega)[hji,hji']
     exact RdN.mk (i+1) (by rw [ZJX fun h=>hji (hfree.1 h).1];simp) hi Zo
   subst hji
   simp(disch:=omega)[r1]
   refine ZIG H Zo (fun hn=>?_) (fun k hk ek _=>?_)
   rotate_left
   · have hk0: ¬((k:Int)<0):=by omega
     simp(disch:=omega)[hk0]
     exact RdN.mk (j+1) (by rw [ZJX fun h=>(hfree.1 h).2 (ek ▸ Yl hk)];simp) hi Zo
   have hf:=hfree.2 ⟨rfl,hn⟩
   simp(disch:=omega)[r1]
   obtain ⟨x,ex⟩: ∃x,x=m2.fs[j]:=⟨_,rfl⟩
   rw [<-ex] at hx xs
   have ex2:(m2.fs[j]'hi).s=x.s:=by rw [ex]
   obtain ⟨sb,hsb⟩: ∃sb:Fu->Bool,sb=fun g=>dq (x.ent g):=⟨_,rfl⟩
   obtain ⟨bb,hbb⟩: ∃bb:Fu->Bool,bb=fun g=>dq (bse g.s=bse x.s/\g.ps.length=x.ps.length):=⟨_,rfl⟩
   refine Lp.rule (fun (k:Nat)=>[(0,.a (.one (.ref ⟨false,0,0⟩))),(4,.a (.one (.ref ⟨true,10004,0⟩))),(5,.a (.one (.ref ⟨true,10005,0⟩))),(7,.a (.one (.l 1 (strs W2)))),(12,.a (pi j)),(13,.a (.one (.ref ⟨true,10013,0⟩))),(14,.a (pb ((m1.fs.take k).any sb))),(15,.a (pb ((m1.fs.take k).any bb))),(16,.a (pi k)),(9999,.objs [[.tip 2 (rzs (oUp m1 m2 b' j))]]),(10004,.a (.agg m1.cs')),(10005,.a (.agg m2.cs')),(10013,.a (.agg (x.row.map .p)))]) (fun k=>k<=m1.fs.length) (fun k=>m1.fs.length-k) (a₀:=0) (by simp [ex]) (Yd _) ?_
   intro k l2
   by_cases hk:k<m1.fs.length
   · have r2:=ZG2 (f:=Fu.row) (l:=m1.fs) (j:=k) Zo
     have hy:=h1.get hk
     have ys:=hy.1.1.1.1
     have t1:(m1.fs.take (k+1)).any sb=((m1.fs.take k).any sb||sb m1.fs[k]):=by rw [Ym,Ya hk,List.any_append];simp
     have t2:(m1.fs.take (k+1)).any bb=((m1.fs.take k).any bb||bb m1.fs[k]):=by rw [Ym,Ya hk,List.any_append];simp
     have gx:=(hx.1.1.2.2.2.1.1)
     have gy:=(hy.1.1.2.2.2.1.1)
     have px:(x.ps.map Pa.row).length=x.ps.length:=Yh _
     have py:(m1.fs[k].ps.map Pa.row).length=m1.fs[k].ps.length:=Yh _
     generalize hA:(m1.fs.take k).any sb=A1 at*
     generalize hB:(m1.fs.take k).any bb=B1 at*
     have fin: ∀(a2 b2:Bool),a2=(A1||sb m1.fs[k])->b2=(B1||bb m1.fs[k])->(m1.fs.take (k+1)).any sb=a2/\(m1.fs.take (k+1)).any bb=b2:=fun a2 b2 e e'=>⟨by rw [t1,e],by rw [t2,e']⟩
     have hs1:sb m1.fs[k]=dq (x.ent m1.fs[k]):=by rw [hsb]
     have hs2:bb m1.fs[k]=dq (bse m1.fs[k].s=bse x.s/\m1.fs[k].ps.length=x.ps.length):=by rw [hbb]
     have tail: ∀a2:Bool,a2=(A1||sb m1.fs[k])->True:=fun _ _=>trivial
     cases A1<;>cases B1<;>simp(disch:=omega)[r2]
     all_goals first
       | (refine ZJE H R hy.1 hx.1 ?_
          rw [<-hs1]
          simp(disch:=omega))
       | skip
     all_goals
       first
         | (refine ZIR R Zo ?_
            simp(disch:=omega)
            refine ZIR R Zo ?_
            by_cases c1:bse m1.fs[k].s=bse x.s
            · by_cases c2:m1.fs[k].ps.length=x.ps.length
              · have c2':(m1.fs[k].ps.length:Int)=x.ps.length:=by omega
                rw [ZDz ⟨c1,c2⟩] at hs2
                simp(disch:=omega)[c1,c2,c2']
                exact RdN.mk (k+1) (by rw [t1,t2,hs2];simp) hk Zo
              · have c2': ¬(m1.fs[k].ps.length:Int)=x.ps.length:=by omega
                rw [ZDy fun h=>c2 h.2] at hs2
                simp(disch:=omega)[c1,c2,c2']
                exact RdN.mk (k+1) (by rw [t1,t2,hs2];simp) hk Zo
            · rw [ZDy fun h=>c1 h.1] at hs2
              simp(disch:=omega)[c1]
              exact RdN.mk (k+1) (by rw [t1,t2,hs2];simp) hk Zo)
         | exact RdN.mk (k+1) (by rw [t1,t2];simp) hk Zo
   · have hA:(m1.fs.take k).any sb= !dq (m1.lacks x):=by
       rw [Yg Zo,hsb]
       by_cases hl:m1.lacks x
       · rw [ZDz hl]
         simp only [Bool.not_true,List.any_eq_false]
         exact fun g hg he=>hl g hg (ZD3.1 he)
       · rw [ZDy hl]
         simp only [Bool.not_false,List.any_eq_true]
         exact Classical.byContradiction fun hn=>hl fun g hg he=>hn ⟨g,hg,ZDz he⟩
     have hB:(m1.fs.take k).any bb=m1.beside x:=by rw [Yg Zo,hbb,Mo.beside]
     rw [hA,hB]
     rw [<-ex] at hj
     by_cases hl:m1.lacks x
     · cases hbe:m1.beside x
       · have ey:=ZJA (m1:=m1) (b:=b') hi hf (by rw [<-ex,hbe];exact fun h=>absurd h.2 Zd)
         rw [ZDz hl]
         simp(disch:=omega)
         exact RdN.mk (j+1) (by rw [ey];simp) hi Zo
       · have ey:=ZJZ (m1:=m1) (b:=b') hi hf (by rw [<-ex];exact hl) (by rw [<-ex];exact hbe)
         rw [ZDz hl]
         simp(disch:=omega)
         refine ZIf R (by rw [YE,List.length_singleton];omega) ?_
         simp(disch:=omega)
         exact RdN.mk (j+1) (by rw [ey,<-ex];simp) hi Zo
     · have ey:=ZJA (m1:=m1) (b:=b') hi hf (by rw [<-ex];exact fun h=>hl h.1)
       rw [ZDy hl]
       simp(disch:=omega)
       exact RdN.mk (j+1) (by rw [ey];simp) hi Zo
 · rw [show i=m2.fs.length by omega,ZJ6]
   simp(disch:=omega)
   exact hQ
end Go.Am.Fe
end
section
namespace Go.Am.Fe
variable {S:SF} {Q:QF}
attribute [local simp] ZbO if_pos if_neg decide_eq_true decide_eq_false Yi Yj ZgF Ops.callv List.idxOf?_cons
def anyB {α:Type} (l:List α) (p:α->Bool):Bool:=l.any p
def any_nil {α:Type} {p:α->Bool}:anyB [] p=false:=rfl
def ZIn {α:Type} {l:List α} {p:α->Bool} {j:Nat} (hj:j<l.length) (h:anyB (l.take j) p=false) (h':p l[j]=false):anyB (l.take (j+1)) p=false:=by
 unfold anyB at h⊢
 rw [Ym,Ya hj,List.any_append,h]
 simp [h']
def ZIF {α:Type} {l:List α} {p:α->Bool} {j:Nat} (hj:j<l.length) (h':p l[j]=true):l.any p=true:=List.any_eq_true.2 ⟨_,Yl hj,h'⟩
def ZI3 (R:HR S) {m:Mo} {s:LN} (hm:Ok Pr.ok m.ps) (hQ:Q [pb (m.meth s)] []):Gives S ZHJ [.agg m.cs',ps s] [] Q:=by
 have n1:=hm.1
 have b1:(m.ps.map Pr.row).length=m.ps.length:=Yh _
 refine .code R.zuMethodq rfl ?_
 simp(disch:=omega)[ZH0]
 unfold Mo.meth at hQ
 refine Lp.rule (fun (j:Nat)=>[(1,.a (ps s)),(2,.a (.one (.ref ⟨true,10002,0⟩))),(5,.a (pi j)),o9,(10002,.a (.agg m.cs'))]) (fun j=>j<=m.ps.length/\anyB (m.ps.take j) (fun p=>p.ms.any fun f=>dq (f.s=s))=false) (fun j=>m.ps.length-j) (a₀:=0) Zs ⟨Yd _,any_nil⟩ ?_
 rintro j ⟨k1,k2⟩
 by_cases hj:j<m.ps.length
 ·have r1:=ZG2 (f:=Pr.row) (l:=m.ps) (j:=j) Zo
  have n2:=(hm.get hj).2.2.1
  have b2:(m.ps[j].ms.map Me.row).length=m.ps[j].ms.length:=Yh _
  simp(disch:=omega)[r1]
  refine Lp.rule (fun (k:Nat)=>[(1,.a (ps s)),(2,.a (.one (.ref ⟨true,10002,0⟩))),(5,.a (pi j)),(6,.a (pi k)),o9,(10002,.a (.agg m.cs'))]) (fun k=>k<=m.ps[j].ms.length/\anyB (m.ps[j].ms.take k) (fun f=>dq (f.s=s))=false) (fun k=>m.ps[j].ms.length-k) (a₀:=0) Zs ⟨Yd _,any_nil⟩ ?_
  rintro k ⟨l1,l2⟩
  by_cases hk:k<m.ps[j].ms.length
  ·have r2:=ZG2 (f:=Me.row) (l:=m.ps[j].ms) (j:=k) Zo
   by_cases hs:m.ps[j].ms[k].s=s
   ·rw [ZIF (p:=fun p:Pr=>p.ms.any fun f=>dq (f.s=s)) hj (ZIF (p:=fun f:Me=>dq (f.s=s)) hk (ZDz hs))] at hQ
    simp(disch:=omega)[r1,r2,hs]
    exact hQ
   ·simp(disch:=omega)[r1,r2,hs]
    exact RdN.mk (k+1) Zs ⟨hk,ZIn hk l2 (ZDy hs)⟩ Zo
  ·rw [Yg Zo] at l2
   simp(disch:=omega)[r1]
   exact RdN.mk (j+1) Zs ⟨hj,ZIn hj k2 l2⟩ Zo
 ·rw [Yg Zo,anyB] at k2
  rw [k2] at hQ
  simp(disch:=omega)
  exact hQ
def ZJb {x:No} {s:LN} (h: ∀f∈x.fs,f.s≠s):x.has s=false:=by
 have:x.fs.any (fun f=>dq (f.s=s))=false:=by
  rw [List.any_eq_false]
  exact fun f hf he=>h f hf (ZD3.1 he)
 rw [No.has,this,Bool.and_false]
def ZKg {x:No} {s:LN} {j:Nat} (h:At Fi.s x.fs s j) (hk:x.k≠2):x.has s=true:=by
 rw [No.has,ZDz hk,ZIF (p:=fun f:Fi=>dq (f.s=s)) h.1 (ZDz h.2.1)]
 rfl
def ZJ0 (R:HR S) {m:Mo} {s:LN} (hm:Ok No.ok m.ns) (hQ:Q [pb (m.fld s)] []):Gives S ZHO [.agg m.cs',ps s] [] Q:=by
 have n1:=hm.1
 have b1:(m.ns.map No.row).length=m.ns.length:=Yh _
 refine .code R.zuHidesq rfl ?_
 simp(disch:=omega)[ZIb]
 unfold Mo.fld at hQ
 refine Lp.rule (fun (j:Nat)=>[(1,.a (ps s)),(2,.a (.one (.ref ⟨true,10002,0⟩))),(5,.a (pi j)),o9,(10002,.a (.agg m.cs'))]) (fun j=>j<=m.ns.length/\anyB (m.ns.take j) (fun x=>x.has s)=false) (fun j=>m.ns.length-j) (a₀:=0) Zs ⟨Yd _,any_nil⟩ ?_
 rintro j ⟨k1,k2⟩
 by_cases hj:j<m.ns.length
 ·have r1:=ZG2 (f:=No.row) (l:=m.ns) (j:=j) Zo
  have n2:=(hm.get hj).2.2.1.1
  by_cases c1:m.ns[j].k=2
  ·simp(disch:=omega)[r1,c1]
   exact RdN.mk (j+1) Zs ⟨hj,ZIn hj k2 (by rw [No.has,ZDy (fun h=>h c1)];rfl)⟩ Zo
  ·simp(disch:=omega)[r1,c1]
   refine ZIW R n2 (fun h=>?_) (fun i h=>?_)
   ·simp(disch:=omega)
    exact RdN.mk (j+1) Zs ⟨hj,ZIn hj k2 (ZJb h)⟩ Zo
   ·rw [ZIF (p:=fun x:No=>x.has s) hj (ZKg h c1)] at hQ
    have hi: ¬(i:Int)<0:=by omega
    simp(disch:=omega)[hi]
    exact hQ
 ·rw [Yg Zo,anyB] at k2
  rw [k2] at hQ
  simp(disch:=omega)
  exact hQ
def ZJn (H:Has S) (R:HR S) {m1 m2:Mo} (h1:Ok No.ok m1.ns) (h2:Ok No.ok m2.ns) (g1:Ok Pr.ok m1.ps) (g2:Ok Pr.ok m2.ps) {b:List Rz}
  (hb:(b++(ZDP Pr.s m2.ps).flatMap (Pr.chosen m1)++(ZDP No.s m1.ns).flatMap (No.chosen m1 m2)).length<68719476736)
  (hQ:Q [] [[.tip 2 (rzs (b++(ZDP Pr.s m2.ps).flatMap (Pr.chosen m1)++(ZDP No.s m1.ns).flatMap (No.chosen m1 m2)))]]):Gives S ZG8 [.one (.ref ⟨false,0,0⟩),.agg m1.cs',.agg m2.cs'] [[.tip 2 (rzs b)]] Q:=by
 have n1:=h1.1
 have n2:=h2.1
 have p1:=g1.1
 have p2:=g2.1
 have b1:(m1.ns.map No.row).length=m1.ns.length:=Yh _
 have b2:(m2.ns.map No.row).length=m2.ns.length:=Yh _
 have b3:(m2.ps.map Pr.row).length=m2.ps.length:=Yh _
 have hb1:(b++(ZDP Pr.s m2.ps).flatMap (Pr.chosen m1)).length<68719476736:=by simp only [YE] at hb⊢;omega
 refine .code R.zuReasonsMethodsq rfl ?_
 simp(disch:=omega)[ZHj]
 refine Lp.rule (fun (i:Nat)=>[(0,.a (.one (.ref ⟨false,0,0⟩))),(4,.a (.one (.ref ⟨true,10004,0⟩))),(5,.a (.one (.ref ⟨true,10005,0⟩))),(6,.a (pi i)),(9999,.objs [[.tip 2 (rzs (upTo Pr.s (Pr.chosen m1) m2.ps b i))]]),(10004,.a (.agg m1.cs')),(10005,.a (.agg m2.cs'))]) (fun i=>i<=m2.ps.length) (fun i=>m2.ps.length-i) (a₀:=0) (by simp [ZHI]) (Yd _) ?_
 intro i k1
 by_cases hi:i<m2.ps.length
 ·have r1:=ZG2 (f:=Pr.row) (l:=m2.ps) (j:=i) Zo
  have hlen:=ZHZ (f:=Pr.s) (g:=Pr.chosen m1) (b:=b) (i:=i+1) (l:=m2.ps) hi
  have hx:=g2.get hi
  have hxs:=hx.1.1
  have hxm:=hx.2.2.1
  have b4:(m2.ps[i].ms.map Me.row).length=m2.ps[i].ms.length:=Yh _
  have old:(∃y∈m1.ps,y.s=m2.ps[i].s)->m2.ps[i].chosen m1=[]:=fun ⟨y,hy,he⟩=>by
   rw [Pr.chosen,if_pos (List.any_eq_true.2 ⟨y,hy,ZDz he⟩)]
  have skip:(ZGt Pr.s m2.ps i->m2.ps[i].chosen m1=[])->upTo Pr.s (Pr.chosen m1) m2.ps b (i+1)=upTo Pr.s (Pr.chosen m1) m2.ps b i:=fun h=>by
   by_cases hf:ZGt Pr.s m2.ps i
   ·rw [ZHz hi hf,h hf,List.append_nil]
   ·exact ZIh hf
  simp(disch:=omega)[r1]
  refine ZHE R p1 (fun hno=>?_) (fun k hk=>?_)
  rotate_left
  ·have hk0: ¬(k:Int)<0:=by omega
   simp(disch:=omega)[hk0]
   exact RdN.mk (i+1) (by rw [skip fun _=>old ⟨_,Yl hk.1,hk.2.1⟩];simp) hi Zo
  simp(disch:=omega)[r1]
  refine ZHE R p2 (fun h=>absurd rfl (h _ (Yl hi))) fun j hj=>?_
  obtain ⟨e1,e2⟩:=ZHN hi hj
  by_cases hji:j=i
  rotate_left
  ·have hji': ¬(j:Int)=i:=by omega
   simp(disch:=omega)[hji,hji']
   exact RdN.mk (i+1) (by rw [skip fun h=>absurd (e1.2 h) hji];simp) hi Zo
  have ey:=ZHz (g:=Pr.chosen m1) (b:=b) hi (e1.1 hji)
  rw [show m2.ps[i].chosen m1=m2.ps[i].ch m1 m2.ps[i].ms.length from by
   rw [Pr.chosen,if_neg]
   rw [Bool.not_eq_true,List.any_eq_false]
   exact fun y hy he=>hno y hy (ZD3.1 he)] at ey
  subst hji
  rw [ey] at hlen
  simp(disch:=omega)[r1]
  generalize upTo Pr.s (Pr.chosen m1) m2.ps b j=b' at*
  refine Lp.rule (fun (k:Nat)=>[(0,.a (.one (.ref ⟨false,0,0⟩))),(4,.a (.one (.ref ⟨true,10004,0⟩))),(5,.a (.one (.ref ⟨true,10005,0⟩))),(6,.a (pi j)),(7,.a (.one (.ref ⟨true,10007,0⟩))),(8,.a (pi k)),(9999,.objs [[.tip 2 (rzs (b'++m2.ps[j].ch m1 k))]]),(10004,.a (.agg m1.cs')),(10005,.a (.agg m2.cs')),(10007,.a (.agg (m2.ps[j].row.map .p)))]) (fun k=>k<=m2.ps[j].ms.length) (fun k=>m2.ps[j].ms.length-k) (a₀:=0) (by simp [Pr.ch]) (Yd _) ?_
  intro k l1
  by_cases hk:k<m2.ps[j].ms.length
  ·have r2:=ZG2 (f:=Me.row) (l:=m2.ps[j].ms) (j:=k) Zo
   have hle:=Pr.ch_le (m:=m1) (p:=m2.ps[j]) (i:=k+1) hk
   have hms:=(hx.2.2.get hk).1.1
   have yes:(m1.meth m2.ps[j].ms[k].s||m1.fld m2.ps[j].ms[k].s)=true->(b'++m2.ps[j].ch m1 k).length+1<68719476736/\b'++m2.ps[j].ch m1 (k+1)=b'++m2.ps[j].ch m1 k++[(9,m2.ps[j].s++[46]++m2.ps[j].ms[k].s)]:=fun h=>by
    have e:=Pr.ch_yes hk h
    rw [dot2] at e
    have e3:b'++m2.ps[j].ch m1 (k+1)=b'++m2.ps[j].ch m1 k++[(9,m2.ps[j].s++[46]++m2.ps[j].ms[k].s)]:=by rw [e];simp only [Yu]
    refine ⟨?_,e3⟩
    have e4:=congrArg List.length e3
    simp only [YE,YN,List.length_nil] at e4 hlen hb1⊢
    omega
   simp(disch:=omega)[r2]
   refine ZI3 R g1 ?_
   cases c1:m1.meth m2.ps[j].ms[k].s
   ·simp(disch:=omega)
    refine ZJ0 R h1 ?_
    cases c2:m1.fld m2.ps[j].ms[k].s
    ·have e:=Pr.ch_no (m:=m1) hk (by rw [c1,c2];rfl)
     simp(disch:=omega)
     exact RdN.mk (k+1) (by rw [e];simp) hk Zo
    ·obtain ⟨e3,e4⟩:=yes (by rw [c1,c2];rfl)
     simp(disch:=omega)
     refine ZIf R (by rw [YE,List.length_singleton];exact e3) ?_
     simp(disch:=omega)
     exact RdN.mk (k+1) (by rw [e4];simp) hk Zo
   ·obtain ⟨e3,e4⟩:=yes (by rw [c1];rfl)
    simp(disch:=omega)
    refine ZIf R (by rw [YE,List.length_singleton];exact e3) ?_
    simp(disch:=omega)
    exact RdN.mk (k+1) (by rw [e4];simp) hk Zo
  ·rw [show k=m2.ps[j].ms.length by omega]
   simp(disch:=omega)
   exact RdN.mk (j+1) (by rw [ey];simp) hi Zo
 rw [show i=m2.ps.length by omega,ZHY]
 generalize b++(ZDP Pr.s m2.ps).flatMap (Pr.chosen m1)=b'' at hb hQ⊢
 simp(disch:=omega)
 refine Lp.rule (fun (i:Nat)=>[(0,.a (.one (.ref ⟨false,0,0⟩))),(4,.a (.one (.ref ⟨true,10004,0⟩))),(5,.a (.one (.ref ⟨true,10005,0⟩))),(10,.a (pi i)),(9999,.objs [[.tip 2 (rzs (upTo No.s (No.chosen m1 m2) m1.ns b'' i))]]),(10004,.a (.agg m1.cs')),(10005,.a (.agg m2.cs'))]) (fun i=>i<=m1.ns.length) (fun i=>m1.ns.length-i) (a₀:=0) (by simp [ZHI]) (Yd _) ?_
 clear hi k1 i
 intro i k1
 by_cases hi:i<m1.ns.length
 ·have r1:=ZG2 (f:=No.row) (l:=m1.ns) (j:=i) Zo
  have hlen:=ZHZ (f:=No.s) (g:=No.chosen m1 m2) (b:=b'') (i:=i+1) (l:=m1.ns) hi
  have hx:=h1.get hi
  have hxs:=hx.1.1
  have hxf:=hx.2.2.1.1
  have skip:(ZGt No.s m1.ns i->m1.ns[i].chosen m1 m2=[])->upTo No.s (No.chosen m1 m2) m1.ns b'' (i+1)=upTo No.s (No.chosen m1 m2) m1.ns b'' i:=fun h=>by
   by_cases hf:ZGt No.s m1.ns i
   ·rw [ZHz hi hf,h hf,List.append_nil]
   ·exact ZIh hf
  simp(disch:=omega)[r1]
  refine ZHT H n2 (fun hno=>?_) (fun k hk=>?_)
  ·have e:=skip fun _=>by rw [No.chosen,ZEC hno]
   by_cases c1:m1.ns[i].k=2
   ·simp(disch:=omega)[r1,c1]
    exact RdN.mk (i+1) (by rw [e];simp) hi Zo
   ·simp(disch:=omega)[r1,c1]
    exact RdN.mk (i+1) (by rw [e];simp) hi Zo
  have hkl:=hk.1
  have hch:m1.ns[i].chosen m1 m2=if dq (m1.ns[i].k=2) then [] else m1.ns[i].ch m1 m2.ns[k] m2.ns[k].fs.length:=by rw [No.chosen,ZD2 hk]
  have hk0: ¬(k:Int)<0:=by omega
  by_cases c1:m1.ns[i].k=2
  ·rw [ZDz c1,if_pos rfl] at hch
   simp(disch:=omega)[r1,c1]
   exact RdN.mk (i+1) (by rw [skip fun _=>hch];simp) hi Zo
  rw [ZDy c1,if_neg Zd] at hch
  simp(disch:=omega)[r1,c1,hk0]
  refine ZHT H n1 (fun h=>absurd rfl (h _ (Yl hi))) fun j hj=>?_
  obtain ⟨e1,e2⟩:=ZHN hi hj
  by_cases hji:j=i
  rotate_left
  ·have hji': ¬(j:Int)=i:=by omega
   simp(disch:=omega)[hji,hji']
   exact RdN.mk (i+1) (by rw [skip fun h=>absurd (e1.2 h) hji];simp) hi Zo
  have ey:=ZHz (g:=No.chosen m1 m2) (b:=b'') hi (e1.1 hji)
  rw [hch] at ey
  subst hji
  rw [ey] at hlen
  simp(disch:=omega)[r1]
  generalize upTo No.s (No.chosen m1 m2) m1.ns b'' j=b' at*
  have r3:=ZG2 (f:=No.row) (l:=m2.ns) (j:=k) Zo
  have hy:=h2.get hkl
  have hyf:=hy.2.2.1.1
  have b5:(m2.ns[k].fs.map Fi.row).length=m2.ns[k].fs.length:=Yh _
  refine Lp.rule (fun (n:Nat)=>[(0,.a (.one (.ref ⟨false,0,0⟩))),(4,.a (.one (.ref ⟨true,10004,0⟩))),(5,.a (.one (.ref ⟨true,10005,0⟩))),(10,.a (pi j)),(11,.a (.one (.ref ⟨true,10011,0⟩))),(12,.a (pi k)),(13,.a (pi n)),(9999,.objs [[.tip 2 (rzs (b'++m1.ns[j].ch m1 m2.ns[k] n))]]),(10004,.a (.agg m1.cs')),(10005,.a (.agg m2.cs')),(10011,.a (.agg (m1.ns[j].row.map .p)))]) (fun n=>n<=m2.ns[k].fs.length) (fun n=>m2.ns[k].fs.length-n) (a₀:=0) (by simp [No.ch]) (Yd _) ?_
  intro n l1
  by_cases hn:n<m2.ns[k].fs.length
  ·have r2:=ZG2 (f:=Fi.row) (l:=m2.ns[k].fs) (j:=n) Zo
   have hle:=No.ch_le (m:=m1) (x:=m1.ns[j]) (y:=m2.ns[k]) (i:=n+1) hn
   have hms:=(hy.2.2.1.get hn).1.1
   have yes:(!m1.ns[j].has m2.ns[k].fs[n].s && m1.meth m2.ns[k].fs[n].s)=true->(b'++m1.ns[j].ch m1 m2.ns[k] n).length+1<68719476736/\b'++m1.ns[j].ch m1 m2.ns[k] (n+1)=b'++m1.ns[j].ch m1 m2.ns[k] n++[(9,m1.ns[j].s++[46]++m2.ns[k].fs[n].s)]:=fun h=>by
    have e:=No.ch_yes hn h
    rw [dot2] at e
    have e3:b'++m1.ns[j].ch m1 m2.ns[k] (n+1)=b'++m1.ns[j].ch m1 m2.ns[k] n++[(9,m1.ns[j].s++[46]++m2.ns[k].fs[n].s)]:=by rw [e];simp only [Yu]
    refine ⟨?_,e3⟩
    have e4:=congrArg List.length e3
    simp only [YE,YN,List.length_nil] at e4 hlen hb⊢
    omega
   simp(disch:=omega)[r2,r3]
   refine ZIW R hxf (fun h=>?_) (fun i h=>?_)
   ·simp(disch:=omega)
    refine ZI3 R g1 ?_
    cases c2:m1.meth m2.ns[k].fs[n].s
    ·have e:=No.ch_no (m:=m1) (x:=m1.ns[j]) hn (by rw [c2,Bool.and_false])
     simp(disch:=omega)
     exact RdN.mk (n+1) (by rw [e];simp) hn Zo
    ·obtain ⟨e3,e4⟩:=yes (by rw [c2,ZJb h];rfl)
     simp(disch:=omega)
     refine ZIf R (by rw [YE,List.length_singleton];exact e3) ?_
     simp(disch:=omega)
     exact RdN.mk (n+1) (by rw [e4];simp) hn Zo
   ·have e:=No.ch_no (m:=m1) (x:=m1.ns[j]) hn (by rw [ZKg h c1];rfl)
    have hi0: ¬(i:Int)<0:=by omega
    simp(disch:=omega)[hi0]
    exact RdN.mk (n+1) (by rw [e];simp) hn Zo
  ·rw [show n=m2.ns[k].fs.length by omega]
   simp(disch:=omega)[r3]
   exact RdN.mk (j+1) (by rw [ey];simp) hi Zo
 ·rw [show i=m1.ns.length by omega,ZHY]
  simp(disch:=omega)
  exact hQ
def ZJL {p q:Prop} (h:p↔q):dq p=dq q:=by
 by_cases hp:p
 ·rw [ZDz hp,ZDz (h.1 hp)]
 ·rw [ZDy hp,ZDy fun hq=>hp (h.2 hq)]
def ZJW (H:Has S) (R:HR S) {m1 m2:Mo} (h1:Ok No.ok m1.ns) (g1:Ok Pr.ok m1.ps) (c1:Ok Co.okn m1.cs) (c2:Ok Co.okn m2.cs) (w1:ZH8 m1) (w2:ZH8 m2) {b:List Rz}
  (hb:(b++(ZDP Co.nm m2.cs).flatMap (Co.news m1)).length<68719476736)
  (hQ:Q [] [[.tip 2 (rzs (b++(ZDP Co.nm m2.cs).flatMap (Co.news m1)))]]):Gives S ZHd [.one (.ref ⟨false,0,0⟩),.agg m1.cs',.agg m2.cs'] [[.tip 2 (rzs b)]] Q:=by
 have n1:=h1.1
 have n2:=g1.1
 have n3:=c1.1
 have n4:=c2.1
 have b1:(m2.cs.map Co.row).length=m2.cs.length:=Yh _
 refine .code R.zuReasonsFreshq rfl ?_
 simp(disch:=omega)[ZHr]
 refine Lp.rule (fun (i:Nat)=>[(0,.a (.one (.ref ⟨false,0,0⟩))),(4,.a (.one (.ref ⟨true,10004,0⟩))),(5,.a (.one (.ref ⟨true,10005,0⟩))),(6,.a (pi i)),(9999,.objs [[.tip 2 (rzs (upTo Co.nm (Co.news m1) m2.cs b i))]]),(10004,.a (.agg m1.cs')),(10005,.a (.agg m2.cs'))]) (fun i=>i<=m2.cs.length) (fun i=>m2.cs.length-i) (a₀:=0) (by simp [ZHI]) (Yd _) ?_
 intro i k1
 by_cases hi:i<m2.cs.length
 ·have r1:=ZG2 (f:=Co.row) (l:=m2.cs) (j:=i) Zo
  have hlen:=ZHZ (f:=Co.nm) (g:=Co.news m1) (b:=b) (i:=i+1) (l:=m2.cs) hi
  have hx:=c2.get hi
  have hxw:=w2 _ (Yl hi)
  have hl1:=hx.1.1.1.1
  have hl2:=hx.1.2
  have skip:(ZGt Co.nm m2.cs i->m2.cs[i].news m1=[])->upTo Co.nm (Co.news m1) m2.cs b (i+1)=upTo Co.nm (Co.news m1) m2.cs b i:=fun h=>by
   by_cases hf:ZGt Co.nm m2.cs i
   ·rw [ZHz hi hf,h hf,List.append_nil]
   ·exact ZIh hf
  have no: ¬((∃y∈m1.ns,y.s=m2.cs[i].t.s)/\(∃y∈m1.ps,y.s=m2.cs[i].p)/\ ∀y∈m1.cs,y.nm≠m2.cs[i].nm)->m2.cs[i].news m1=[]:=fun h=>by
   rw [Co.news,if_neg]
   intro hh
   simp only [Yb,List.any_eq_true,Bool.not_eq_true',List.any_eq_false] at hh
   obtain ⟨⟨⟨y,hy,e⟩,⟨z,hz,e'⟩⟩,hn⟩:=hh
   exact h ⟨⟨y,hy,ZD3.1 e⟩,⟨z,hz,ZD3.1 e'⟩,fun y hy he=>hn y hy (ZDz he)⟩
  simp(disch:=omega)[r1]
  refine ZJs R n4 w2 hxw (fun h=>absurd rfl (h _ (Yl hi))) fun j hj=>?_
  obtain ⟨e1,e2⟩:=ZHN hi hj
  by_cases hji:j=i
  rotate_left
  ·have hji': ¬(j:Int)=i:=by omega
   simp(disch:=omega)[hji,hji']
   exact RdN.mk (i+1) (by rw [skip fun h=>absurd (e1.2 h) hji];simp) hi Zo
  have ey:=ZHz (g:=Co.news m1) (b:=b) hi (e1.1 hji)
  subst hji
  simp(disch:=omega)[r1]
  refine ZJs R n3 w1 hxw (fun hn1=>?_) (fun k hk=>?_)
  rotate_left
  ·have hk0: ¬(k:Int)<0:=by omega
   simp(disch:=omega)[hk0]
   exact RdN.mk (j+1) (by rw [skip fun _=>no fun h=>h.2.2 _ (Yl hk.1) hk.2.1];simp) hi Zo
  simp(disch:=omega)[r1]
  refine ZHT H n1 (fun hn2=>?_) (fun k hk=>?_)
  ·simp(disch:=omega)
   exact RdN.mk (j+1) (by rw [skip fun _=>no fun h=>let ⟨y,hy,he⟩:=h.1;hn2 y hy he];simp) hi Zo
  have hk0: ¬(k:Int)<0:=by omega
  simp(disch:=omega)[r1,hk0]
  refine ZHE R n2 (fun hn2=>?_) (fun l hl=>?_)
  ·simp(disch:=omega)
   exact RdN.mk (j+1) (by rw [skip fun _=>no fun h=>let ⟨y,hy,he⟩:=h.2.1;hn2 y hy he];simp) hi Zo
  have hl0: ¬(l:Int)<0:=by omega
  have hnew:m2.cs[j].news m1=[(10,m2.cs[j].t.s++[58]++m2.cs[j].p)]:=by
   rw [Co.news,if_pos,dot1]
   ·rfl
   ·simp only [Yb,List.any_eq_true,Bool.not_eq_true',List.any_eq_false]
    exact ⟨⟨⟨_,Yl hk.1,ZDz hk.2.1⟩,⟨_,Yl hl.1,ZDz hl.2.1⟩⟩,fun y hy he=>hn1 y hy (ZD3.1 he)⟩
  rw [hnew] at ey
  rw [ey] at hlen
  generalize upTo Co.nm (Co.news m1) m2.cs b j=b' at*
  have hb':=Nat.lt_of_le_of_lt hlen hb
  rw [YE,List.length_singleton] at hb'
  simp(disch:=omega)[r1,hl0]
  refine ZIf R (by rw [YE,List.length_singleton];exact hb') ?_
  simp(disch:=omega)
  exact RdN.mk (j+1) (by rw [ey];simp) hi Zo
 ·rw [show i=m2.cs.length by omega,ZHY]
  simp(disch:=omega)
  exact hQ
structure Mo.Tab (m:Mo):Prop where
 g:m.Good
 w:ZH8 m
def Mo.Tab.k {m:Mo} (h:m.Tab):Ok Fu.okk m.fs:=h.g.f.imp fun _ h=>⟨h.1,h.2.2.1⟩
def Mo.Tab.n {m:Mo} (h:m.Tab):Ok No.ok m.ns:=h.g.n.imp fun _ h=>h.ok.1
def ZIx (H:Has S) (R:HR S) {m1 m2:Mo} (h1:m1.Tab) (h2:m2.Tab) (hQ:Q [.one (.p (.sl 2 ((rzs (ZD1 m1 m2)).take 100)))] []):Gives S ZHG [.agg m1.cs',.agg m2.cs'] [] Q:=by
 have o1:=h1.g.okn
 have o2:=h2.g.okn
 have hb:=ZIi h1.g h2.g
 refine .code R.zuReasons rfl ?_
 simp(disch:=omega)[ZH1]
 have q1:=ZID h1.g h2.g
 have q2:=ZIJ h1.g h2.g
 have q3:=ZII h1.g h2.g
 unfold ZD1 at hb hQ
 have l1:((ZDP No.s m1.ns).flatMap (No.rs m2)).length<68719476736:=by simp only [YE] at hb;omega
 refine ZI1 H R o1.n o2.n (b:=[]) (by rw [YO];exact l1) ?_
 rw [YO]
 generalize (ZDP No.s m1.ns).flatMap (No.rs m2)=b1 at hb hQ q1⊢
 simp(disch:=omega)
 refine ZIM H R o1.p o2.p (b:=b1) (by simp only [YE] at hb⊢;omega) ?_
 obtain ⟨b2,e2⟩: ∃b2,b2=b1++(ZDP Pr.s m1.ps).flatMap (Pr.rs m2):=⟨_,rfl⟩
 have q4:b2.length<=100000*180001+100000:=by rw [e2,YE];omega
 rw [<-e2] at hb hQ⊢
 simp(disch:=omega)
 refine ZKe H R o1.c o2.c h1.w h2.w (b:=b2) (by simp only [YE] at hb⊢;omega) ?_
 obtain ⟨b3,e3⟩: ∃b3,b3=b2++(ZDP Co.nm m1.cs).flatMap (Co.rsn m2):=⟨_,rfl⟩
 have l3:b3.length<=60000000000:=by rw [e3,YE];omega
 rw [<-e3] at hb hQ⊢
 simp(disch:=omega)
 refine ZJV H R h1.k h2.k o1.c o2.c (b:=b3) l3 ?_
 generalize b3++ZEb m1 m2 m1.free.length++ZEa m1 m2 m2.free.length=b5 at hb hQ⊢
 simp(disch:=omega)
 refine ZJn H R h1.n h2.n o1.p o2.p (b:=b5) (by simp only [YE] at hb⊢;omega) ?_
 generalize b5++(ZDP Pr.s m2.ps).flatMap (Pr.chosen m1)++(ZDP No.s m1.ns).flatMap (No.chosen m1 m2)=b6 at hb hQ⊢
 simp(disch:=omega)
 refine ZJW H R h1.n o1.p o1.c o2.c h1.w h2.w (b:=b6) hb ?_
 generalize b6++(ZDP Co.nm m2.cs).flatMap (Co.news m1)=b7 at hb hQ⊢
 have hrl:=ZFe (l:=b7)
 by_cases hlen:100<(rzs b7).length
 ·simp(disch:=omega)[hlen,ZEw]
  exact hQ
 ·rw [Yg Zo] at hQ
  simp(disch:=omega)[hlen,ZEw]
  exact hQ
end Go.Am.Fe
end
