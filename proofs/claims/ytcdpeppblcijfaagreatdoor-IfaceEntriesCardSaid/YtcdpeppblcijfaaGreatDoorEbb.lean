/- Part. -/
import Derived.Test.YtcdpeppblcijfaaGreatDoorEba
set_option maxRecDepth 999999
set_option maxHeartbeats 0
set_option linter.all false
section
namespace Go.Am.Fe
variable {S:SF} {Q:QF}
attribute [local simp] ZbO if_pos if_neg decide_eq_true decide_eq_false Yi Yj ZgF Ops.callv List.idxOf?_cons
def ZH8 (m:Mo):Prop:= ∀c∈m.cs,58∉c.t.s
def ZJx {s:LN} (h:47∉s):bse s=s:=by
 unfold bse
 induction s with
 | nil=>rfl
 | cons a s ih=>
   simp only [Yv,not_or] at h
   rw [List.takeWhile_cons,if_pos (by simpa using Ne.symm h.1),ih h.2]
def ZJK {s:LN} (h:47∈s):s.take (s.idxOf 47)=bse s:=by
 unfold bse
 induction s with
 | nil=>cases h
 | cons a s ih=>
   by_cases ha:a=47
   · subst ha;simp
   · have hs:47∈s:=by simpa [Ne.symm ha] using h
     have e1:(a::s).idxOf 47=s.idxOf 47+1:=by rw [List.idxOf_cons,beq_false_of_ne ha];rfl
     rw [e1,List.take_succ_cons,ih hs,List.takeWhile_cons,if_pos (by simpa using ha)]
def ZKm {s:LN}:47∉bse s:=by
 unfold bse
 induction s with
 | nil=>simp
 | cons a s ih=>
   rw [List.takeWhile_cons]
   split
   · rename_i h
     intro hm
     rcases List.mem_cons.1 hm with e|hm
     · subst e;simp at h
     · exact ih hm
   · simp
def ZJl {s:LN}:(bse s=s)↔47∉s:=⟨fun h=>h ▸ ZKm,ZJx⟩
def ZIR (R:HR S) {s:LN} (hs:s.length<=300000) (hQ:Q [ps (bse s)] []):Gives S ZHW [ps s] [] Q:=by
 refine .code R.zuStemq rfl ?_
 simp(disch:=omega)[ZIq]
 refine R.ib s 47 Zd hs (fun h=>?_) (fun h=>?_)
 ·simp(disch:=omega)
  rwa [ZJx h] at hQ
 ·have hi:=List.idxOf_lt_length_iff.2 h
  have h0: ¬((s.idxOf 47:Nat):Int)<0:=by omega
  simp(disch:=omega)[h0]
  rwa [ZJK h]
noncomputable def Fu.ren (f:Fu) (gs:List LN):Fu:=⟨f.s,gs,f.rs.map (Re.put f.gs gs),f.ps.map (Pa.put f.gs gs),f.r.put f.gs gs,f.e.put f.gs gs,f.b⟩
def ZJu (H:Has S) (R:HR S) {f:Fu} {gs:List LN} (hf:f.okn) (hg:gs.length<=100000) (hl:f.gs.length=gs.length) (hQ:Q [.agg ((f.ren gs).row.map .p)] []):Gives S ZHH [.agg (f.row.map .p),.one (.l 1 (strs gs))] [] Q:=by
 obtain ⟨⟨x1,x2,x3,x4,x5,x6⟩,x7⟩:=hf
 have a1:=x3.1
 have a2:=x4.1
 have a3:=hg
 have gf:(strs f.gs).length=f.gs.length:=by simp [strs]
 have gg:(strs gs).length=gs.length:=by simp [strs]
 have b1:(f.rs.map Re.row).length=f.rs.length:=Yh _
 have b2:(f.ps.map Pa.row).length=f.ps.length:=Yh _
 refine .code R.zuRenamed rfl ?_
 simp(disch:=omega)[ZH4]
 simp(disch:=omega)[gf,gg,hl]
 refine ZhD H hg ?_
 simp(disch:=omega)
 refine Lp.rule (fun (j:Nat)=>[(1,.a (.one (.l 1 (strs gs)))),(2,.a (.one (.ref ⟨true,10002,0⟩))),(4,.a (.one (.ref ⟨true,10004,0⟩))),(5,.a (.one (.ref ⟨true,10005,0⟩))),(6,.a (pi j)),o9,(10002,.a (.agg (f.row.map .p))),
  (10004,.a (.agg [.s [],.tip 1 [],.tip 10 [],.tip 6 [],.i 0,.s [],.i 0,.tip 4 [],.i 0,.s [],.i 0,.tip 4 [],.i 0,.s [],.i 0,.i 0,.s [],.i 0,.tip 4 [],.tip 4 [],.tip 10 [],.i 0])),
  (10005,.a (.agg ([.s f.s,.l 1 (strs gs),.tip 10 (((f.rs.map (Re.put f.gs gs)).map Re.row).take j),.l 6 (f.ps.map Pa.row)]++(f.row.map .p).drop 4)))]) (fun j=>j<=f.rs.length) (fun j=>f.rs.length-j) (a₀:=0) Zs (Yd _) ?_
 intro j k1
 by_cases hj:j<f.rs.length
 ·have r1:=ZG2 (f:=Re.row) (l:=f.rs) (j:=j) Zo
  have hq:=x3.get hj
  have el:(((f.rs.map (Re.put f.gs gs)).map Re.row).take j).length<=100000:=by simp;omega
  simp(disch:=omega)[r1]
  refine ZJj H R x2 hg hq.2.1 ?_
  simp(disch:=omega)[r1]
  refine ZJj H R x2 hg hq.2.2 ?_
  simp(disch:=omega)[r1]
  exact RdN.mk (j+1) (by simp [Ym,Ya hj,Re.put]) hj Zo
 rw [show ((f.rs.map (Re.put f.gs gs)).map Re.row).take j=(f.rs.map (Re.put f.gs gs)).map Re.row from Yg Ze]
 simp(disch:=omega)
 refine Lp.rule (fun (j:Nat)=>[(1,.a (.one (.l 1 (strs gs)))),(2,.a (.one (.ref ⟨true,10002,0⟩))),(4,.a (.one (.ref ⟨true,10004,0⟩))),(5,.a (.one (.ref ⟨true,10005,0⟩))),(8,.a (pi j)),o9,(10002,.a (.agg (f.row.map .p))),
  (10004,.a (.agg [.s [],.tip 1 [],.tip 10 [],.tip 6 [],.i 0,.s [],.i 0,.tip 4 [],.i 0,.s [],.i 0,.tip 4 [],.i 0,.s [],.i 0,.i 0,.s [],.i 0,.tip 4 [],.tip 4 [],.tip 10 [],.i 0])),
  (10005,.a (.agg ([.s f.s,.l 1 (strs gs),.tip 10 ((f.rs.map (Re.put f.gs gs)).map Re.row),.tip 6 (((f.ps.map (Pa.put f.gs gs)).map Pa.row).take j)]++(f.row.map .p).drop 4)))]) (fun j=>j<=f.ps.length) (fun j=>f.ps.length-j) (a₀:=0) Zs (Yd _) ?_
 clear hj k1 j
 intro j k1
 by_cases hj:j<f.ps.length
 ·have r1:=ZG2 (f:=Pa.row) (l:=f.ps) (j:=j) Zo
  have hq:=x4.get hj
  have el:(((f.ps.map (Pa.put f.gs gs)).map Pa.row).take j).length<=100000:=by simp;omega
  simp(disch:=omega)[r1]
  refine ZJj H R x2 hg hq.2 ?_
  simp(disch:=omega)[r1]
  exact RdN.mk (j+1) (by simp [Ym,Ya hj,Pa.put]) hj Zo
 rw [show ((f.ps.map (Pa.put f.gs gs)).map Pa.row).take j=(f.ps.map (Pa.put f.gs gs)).map Pa.row from Yg Ze]
 simp(disch:=omega)
 refine ZJj H R x2 hg x5 ?_
 simp(disch:=omega)
 refine ZJj H R x2 hg x6 ?_
 simp(disch:=omega)
 simpa [Fu.ren] using hQ
def ZJI (H:Has S) (R:HR S) {l m:List Re} (hl:Ok Re.ok l) (hm:Ok Re.ok m) (hQ:Q [pb (dq (l=m))] []):Gives S ZHS [.one (.l 10 (l.map Re.row)),.one (.l 10 (m.map Re.row))] [] Q:=by
 have g1:=hl.1
 have g2:=hm.1
 have e1:(l.map Re.row).length=l.length:=Yh _
 have e2:(m.map Re.row).length=m.length:=Yh _
 refine .code R.zaEqReqs rfl ?_
 simp(disch:=omega)[ZIc]
 by_cases hlen:l.length=m.length
 ·simp(disch:=omega)[hlen]
  refine Lp.rule (fun (j:Nat)=>[(0,.a (.one (.l 10 (l.map Re.row)))),(1,.a (.one (.l 10 (m.map Re.row)))),(5,.a (pi j)),o9]) (fun j=>j<=l.length/\l.take j=m.take j) (fun j=>l.length-j) (a₀:=0) Zs ⟨Yd _,by simp⟩ ?_
  rintro j ⟨k1,k2⟩
  by_cases hj:j<l.length
  ·have hjm:j<m.length:=by omega
   have r1:=ZG2 (f:=Re.row) (l:=l) (j:=j) Zo
   have r2:=ZG2 (f:=Re.row) (l:=m) (j:=j) Zo
   simp(disch:=omega)[r1,r2]
   refine ZJy H R (hl.get hj) (hm.get hjm) ?_
   by_cases he:l[j]=m[j]
   ·rw [ZDz he]
    simp(disch:=omega)
    exact RdN.mk (j+1) Zs ⟨hj,ZHh k2 hj hjm he⟩ Zo
   ·rw [ZDy he]
    simp(disch:=omega)
    rw [ZDy (ZH9 hj hjm he)] at hQ
    exact hQ
  ·simp(disch:=omega)
   rw [ZDz (ZHu k2 Zo Zo)] at hQ
   exact hQ
 ·simp(disch:=omega)[hlen]
  rw [ZDy fun h=>hlen (by rw [h])] at hQ
  exact hQ
def ZI0 {s t:LN}:ZFI s=ZFI t↔(47∈s↔47∈t):=by
 unfold ZFI
 rw [List.elem_eq_mem,List.elem_eq_mem,Bool.eq_iff_iff,decide_eq_true_iff,decide_eq_true_iff]
def ZJC {s:LN}:(bse s).length<=s.length:=(List.takeWhile_sublist _).length_le
def ZJE (H:Has S) (R:HR S) {a b:Fu} (ha:a.okn) (hb:b.okn) (hQ:Q [pb (dq (b.ent a))] []):Gives S ZHB [.agg (a.row.map .p),.agg (b.row.map .p)] [] Q:=by
 have ha0:=ha
 have hb0:=hb
 obtain ⟨⟨x1,x2,x3,x4,x5,x6⟩,x7⟩:=ha
 obtain ⟨⟨y1,y2,y3,y4,y5,y6⟩,y7⟩:=hb
 have s1:=x1.1
 have s2:=y1.1
 have t1:=ZJC (s:=a.s)
 have t2:=ZJC (s:=b.s)
 have a1:=x3.1
 have a2:=x4.1
 have a3:=y3.1
 have a4:=y4.1
 have gf:(strs a.gs).length=a.gs.length:=by simp [strs]
 have gg:(strs b.gs).length=b.gs.length:=by simp [strs]
 have b1:(a.ps.map Pa.row).length=a.ps.length:=Yh _
 have b2:(b.ps.map Pa.row).length=b.ps.length:=Yh _
 have bad: ¬b.ent a->Q [pb false] []:=fun h=>by rw [ZDy h] at hQ;exact hQ
 refine .code R.zuEntryq rfl ?_
 simp(disch:=omega)[ZIe]
 refine ZIR R Zo ?_
 simp(disch:=omega)
 refine ZIR R Zo ?_
 simp(disch:=omega)
 refine ZIR R Zo ?_
 by_cases c1:bse a.s=bse b.s
 rotate_left
 ·simp(disch:=omega)[c1]
  exact bad fun h=>c1 h.1.symm
 simp(disch:=omega)[c1]
 refine ZIR R Zo ?_
 by_cases c2:ZFI b.s=ZFI a.s
 rotate_left
 ·have c2': ¬(decide (bse b.s=a.s)=decide (bse b.s=b.s)):=fun h=>c2 (ZI0.2 (by
   have h2:(bse b.s=a.s)↔(bse b.s=b.s):=by simpa [decide_eq_decide] using h
   rw [<-c1,ZJl,c1,ZJl] at h2
   exact (Decidable.not_iff_not.1 h2).symm))
  have c3:=bne_iff_ne.2 c2'
  simp(disch:=omega)[c3]
  exact bad fun h=>c2 h.2.1
 have c2':decide (bse b.s=a.s)=decide (bse b.s=b.s):=by
  have h:=ZI0.1 c2
  rw [decide_eq_decide,<-c1,ZJl,c1,ZJl]
  exact not_congr h.symm
 have c3:(decide (bse b.s=a.s) !=decide (bse b.s=b.s))=false:=by rw [c2'];simp
 by_cases c4:a.gs.length=b.gs.length
 rotate_left
 ·have c4': ¬(a.gs.length:Int)=b.gs.length:=by omega
  simp(disch:=omega)[c3,gf,gg,c4,c4']
  exact bad fun h=>c4 h.2.2.1.symm
 by_cases c5:a.ps.length=b.ps.length
 rotate_left
 ·have c5': ¬(a.ps.length:Int)=b.ps.length:=by omega
  simp(disch:=omega)[c3,gf,gg,c4,c5,c5']
  exact bad fun h=>c5 (by have:=congrArg List.length h.2.2.2.2.1;simpa using this.symm)
 simp(disch:=omega)[c3,gf,gg,c4,c5]
 refine ZJu H R ha0 y7.1 c4 ?_
 obtain ⟨x,hx⟩: ∃x,x=a.ren b.gs:=⟨_,rfl⟩
 have z1:Ok Re.ok x.rs:=by rw [hx];exact x3.map Re.put_ok
 have z2:Ok Pa.ok x.ps:=by rw [hx];exact x4.map Pa.put_ok
 have z3:x.r.fw:=by rw [hx];exact Ty.put_fw x5
 have z4:x.e.fw:=by rw [hx];exact Ty.put_fw x6
 have z5:x.ps.length=a.ps.length:=by rw [hx];exact Yh _
 have he:b.ent a↔b.rs=x.rs/\b.ps.map Pa.bare=x.ps.map Pa.bare/\b.r=x.r/\b.e=x.e:=by
  rw [hx]
  exact ⟨fun h=>h.2.2.2,fun h=>⟨c1.symm,c2,c4.symm,h⟩⟩
 rw [<-hx]
 clear hx
 have b3:(x.ps.map Pa.row).length=x.ps.length:=Yh _
 simp(disch:=omega)
 refine Lp.rule (fun (k:Nat)=>[(3,.a (.one (.ref ⟨true,10003,0⟩))),(6,.a (.one (.ref ⟨true,10006,0⟩))),(7,.a (pi k)),o9,(10003,.a (.agg (b.row.map .p))),(10006,.a (.agg (x.row.map .p)))]) (fun k=>k<=x.ps.length/\(x.ps.map Pa.bare).take k=(b.ps.map Pa.bare).take k) (fun k=>x.ps.length-k) (a₀:=0) Zs ⟨Yd _,by simp⟩ ?_
 rintro k ⟨l1,l2⟩
 by_cases hk:k<x.ps.length
 ·have hkm:k<b.ps.length:=by omega
  have hkp:k<(x.ps.map Pa.bare).length:=by rw [Yh];exact hk
  have hkq:k<(b.ps.map Pa.bare).length:=by rw [Yh];exact hkm
  have r3:=ZG2 (f:=Pa.row) (l:=x.ps) (j:=k) Zo
  have r4:=ZG2 (f:=Pa.row) (l:=b.ps) (j:=k) Zo
  have badk: ¬(x.ps[k].bare=b.ps[k].bare)->Q [pb false] []:=fun h=>bad fun h'=>ZH9 hkp hkq (by rw [List.getElem_map,List.getElem_map];exact h) (he.1 h').2.1.symm
  by_cases e1:x.ps[k].o=b.ps[k].o
  rotate_left
  ·simp(disch:=omega)[r3,r4,e1]
   exact badk fun h=>e1 (congrArg (·.1) h)
  simp(disch:=omega)[r3,r4,e1]
  refine ZI6 H (z2.get hk).2 (y4.get hkm).2 ?_
  by_cases e2:x.ps[k].t=b.ps[k].t
  ·rw [ZDz e2]
   simp(disch:=omega)
   exact RdN.mk (k+1) Zs ⟨hk,ZHh l2 hkp hkq (by rw [List.getElem_map,List.getElem_map,Pa.bare,Pa.bare,e1,e2])⟩ Zo
  ·rw [ZDy e2]
   simp(disch:=omega)
   exact badk fun h=>e2 (congrArg (·.2) h)
 have l3:=ZHu l2 (by rw [Yh];omega) (by rw [Yh];omega)
 simp(disch:=omega)
 refine ZJI H R z1 y3 ?_
 by_cases d1:x.rs=b.rs
 rotate_left
 ·rw [ZDy d1]
  simp(disch:=omega)
  exact bad fun h=>d1 (he.1 h).1.symm
 rw [ZDz d1]
 simp(disch:=omega)
 refine ZI6 H z3 y5 ?_
 by_cases d2:x.r=b.r
 rotate_left
 ·rw [ZDy d2]
  simp(disch:=omega)
  exact bad fun h=>d2 (he.1 h).2.2.1.symm
 rw [ZDz d2]
 simp(disch:=omega)
 refine ZI6 H z4 y6 ?_
 by_cases d3:x.e=b.e
 rotate_left
 ·rw [ZDy d3]
  simp(disch:=omega)
  exact bad fun h=>d3 (he.1 h).2.2.2.symm
 rw [ZDz d3]
 simp(disch:=omega)
 rw [ZDz (he.2 ⟨d1.symm,l3.symm,d2.symm,d3.symm⟩)] at hQ
 exact hQ
def ZJw (H:Has S) (R:HR S) {m:Mo} {f:Fu} (hm:Ok Fu.okn m.fs) (hf:f.okn) (hQ0:(∀g∈m.fs,¬g.ent f)->Q [ps [],pb false] []) (hQ1: ∀(i:Nat) (hi:i<m.fs.length),m.fs[i].ent f->(∀g∈m.fs.take i,¬g.ent f)->Q [ps m.fs[i].s,pb true] []):
  Gives S ZH5 [.agg m.cs',.agg (f.row.map .p)] [] Q:=by
 have n1:=hm.1
 have b1:(m.fs.map Fu.row).length=m.fs.length:=Yh _
 refine .code R.zuEntry rfl ?_
 simp(disch:=omega)[ZIo]
 refine Lp.rule (fun (i:Nat)=>[(2,.a (.one (.ref ⟨true,10002,0⟩))),(3,.a (.one (.ref ⟨true,10003,0⟩))),(6,.a (pi i)),o9,(10002,.a (.agg m.cs')),(10003,.a (.agg (f.row.map .p)))]) (fun i=>i<=m.fs.length/\ ∀g∈m.fs.take i,¬g.ent f) (fun i=>m.fs.length-i) (a₀:=0) Zs ⟨Yd _,by simp⟩ ?_
 rintro i ⟨k1,k2⟩
 by_cases hi:i<m.fs.length
 ·have r1:=ZG2 (f:=Fu.row) (l:=m.fs) (j:=i) Zo
  simp(disch:=omega)[r1]
  refine ZJE H R hf (hm.get hi) ?_
  by_cases he:m.fs[i].ent f
  ·rw [ZDz he]
   simp(disch:=omega)[r1]
   exact hQ1 i hi he k2
  ·rw [ZDy he]
   simp(disch:=omega)
   exact RdN.mk (i+1) Zs ⟨hi,fun g hg=>by
    rw [Ym,Ya hi,Ys] at hg
    rcases hg with hg|hg
    ·exact k2 g hg
    ·simp at hg;rw [hg];exact he⟩ Zo
 ·simp(disch:=omega)
  exact hQ0 (by rwa [Yg Zo] at k2)
end Go.Am.Fe
end
