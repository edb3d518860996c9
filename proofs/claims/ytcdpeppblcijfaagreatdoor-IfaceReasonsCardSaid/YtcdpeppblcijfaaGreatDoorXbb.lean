/- Part. -/
import Derived.Test.YtcdpeppblcijfaaGreatDoorXba
set_option maxRecDepth 999999
set_option maxHeartbeats 0
set_option linter.all false
section
namespace Go.Am.Fe
variable {S:SF} {Q:QF}
attribute [local simp] ZbO if_pos if_neg decide_eq_true decide_eq_false Yi Yj ZgF Ops.callv List.idxOf?_cons
def ZH8 (m:Mo):Prop:= ∀c∈m.cs,58∉c.t.s
def ZKv {c d:Co} (hc:58∉c.t.s) (hd:58∉d.t.s):c.nm=d.nm↔c.t.s=d.t.s/\c.p=d.p:=⟨fun h=>ZKo hc hd h,fun h=>by rw [Co.nm,Co.nm,h.1,h.2]⟩
def ZJs (R:HR S) {m:Mo} {c:Co} (hn:m.cs.length<=100000) (hw:ZH8 m) (hc:58∉c.t.s) (hQ0:(∀x∈m.cs,x.nm≠c.nm)->Q [pi (-1)] []) (hQ1: ∀j:Nat,At Co.nm m.cs c.nm j->Q [pi j] []):Gives S ZHQ [.agg m.cs',.agg (c.row.map .p)] [] Q:=by
 have b1:(m.cs.map Co.row).length=m.cs.length:=Yh _
 refine .code R.zuConfq rfl ?_
 simp(disch:=omega)[ZIr]
 refine Lp.rule (fun (j:Nat)=>[(2,.a (.one (.ref ⟨true,10002,0⟩))),(3,.a (.one (.ref ⟨true,10003,0⟩))),(5,.a (pi j)),o9,(10002,.a (.agg m.cs')),(10003,.a (.agg (c.row.map .p)))]) (fun j=>j<=m.cs.length/\ ∀f∈m.cs.take j,f.nm≠c.nm) (fun j=>m.cs.length-j) (a₀:=0) Zs ⟨Yd _,by simp⟩ ?_
 rintro j ⟨k1,k2⟩
 by_cases hj:j<m.cs.length
 ·have r1:=ZG2 (f:=Co.row) (l:=m.cs) (j:=j) Zo
  have hw2:=ZKv (hw _ (Yl hj)) hc
  by_cases h1:m.cs[j].t.s=c.t.s
  ·by_cases h2:m.cs[j].p=c.p
   ·simp(disch:=omega)[r1,h1,h2]
    exact hQ1 j ⟨hj,hw2.2 ⟨h1,h2⟩,k2⟩
   ·simp(disch:=omega)[r1,h1,h2]
    exact RdN.mk (j+1) Zs ⟨hj,ZEj hj k2 fun h=>h2 (hw2.1 h).2⟩ Zo
  ·simp(disch:=omega)[r1,h1]
   exact RdN.mk (j+1) Zs ⟨hj,ZEj hj k2 fun h=>h1 (hw2.1 h).1⟩ Zo
 ·simp(disch:=omega)
  exact hQ0 (by rwa [Yg Zo] at k2)
def ZJc (H:Has S) (R:HR S) {c d:Co} (hc:c.okn) (hd:d.okn) (hQ:Q [pb (dq (c.sim d))] []):Gives S ZHv [.agg (c.row.map .p),.agg (d.row.map .p)] [] Q:=by
 obtain ⟨⟨⟨c1,c2,c3,c4,c5,c6⟩,_⟩,c8⟩:=hc
 obtain ⟨⟨⟨d1,d2,d3,d4,d5,d6⟩,_⟩,d8⟩:=hd
 have gf:(strs c.gs).length=c.gs.length:=by simp [strs]
 have gg:(strs d.gs).length=d.gs.length:=by simp [strs]
 have b1:(c.rs.map Re.row).length=c.rs.length:=Yh _
 have b2:(d.rs.map Re.row).length=d.rs.length:=Yh _
 have a1:=c4.1
 have a2:=d4.1
 have bad: ¬c.sim d->Q [pb false] []:=fun h=>by rw [ZDy h] at hQ;exact hQ
 refine .code R.zuConformsq rfl ?_
 simp(disch:=omega)[ZHF]
 by_cases e1:c.gs.length=d.gs.length
 rotate_left
 ·have e1': ¬(c.gs.length:Int)=d.gs.length:=by omega
  simp(disch:=omega)[gf,gg,e1,e1']
  exact bad fun h=>e1 h.1
 by_cases e2:c.rs.length=d.rs.length
 rotate_left
 ·have e2': ¬(c.rs.length:Int)=d.rs.length:=by omega
  simp(disch:=omega)[gf,gg,e1,e2,e2']
  exact bad fun h=>e2 (by rw [h.2.1,Yh])
 simp(disch:=omega)[gf,gg,e1,e2]
 refine ZJa H R d3 c8 c5 d5 ?_
 by_cases e3:c.ts=d.ts.map (Ty.put d.gs c.gs)
 rotate_left
 ·rw [ZDy e3]
  simp(disch:=omega)
  exact bad fun h=>e3 h.2.2.1
 rw [ZDz e3]
 simp(disch:=omega)
 refine ZI8 R c6 d6 ?_
 by_cases e4:c.fs=d.fs
 rotate_left
 ·rw [ZDy e4]
  simp(disch:=omega)
  exact bad fun h=>e4 h.2.2.2
 rw [ZDz e4]
 simp(disch:=omega)
 refine Lp.rule (fun (j:Nat)=>[(2,.a (.one (.ref ⟨true,10002,0⟩))),(3,.a (.one (.ref ⟨true,10003,0⟩))),(5,.a (pi j)),o9,(10002,.a (.agg (c.row.map .p))),(10003,.a (.agg (d.row.map .p)))]) (fun j=>j<=c.rs.length/\c.rs.take j=(d.rs.map (Re.put d.gs c.gs)).take j) (fun j=>c.rs.length-j) (a₀:=0) Zs ⟨Yd _,by simp⟩ ?_
 rintro j ⟨k1,k2⟩
 by_cases hj:j<c.rs.length
 ·have hjm:j<d.rs.length:=by omega
  have hjp:j<(d.rs.map (Re.put d.gs c.gs)).length:=by rw [Yh];exact hjm
  have r1:=ZG2 (f:=Re.row) (l:=c.rs) (j:=j) Zo
  have r2:=ZG2 (f:=Re.row) (l:=d.rs) (j:=j) Zo
  have hq:=d4.get hjm
  simp(disch:=omega)[r1,r2]
  refine ZJj H R d3 c8 hq.2.1 ?_
  simp(disch:=omega)[r1,r2]
  refine ZJj H R d3 c8 hq.2.2 ?_
  simp(disch:=omega)[r1,r2]
  refine ZJy H R (y:=d.rs[j].put d.gs c.gs) (c4.get hj) (Re.put_ok _ hq) ?_
  by_cases e5:c.rs[j]=d.rs[j].put d.gs c.gs
  ·rw [ZDz e5]
   simp(disch:=omega)
   exact RdN.mk (j+1) Zs ⟨hj,ZHh k2 hj hjp (by rw [List.getElem_map];exact e5)⟩ Zo
  ·rw [ZDy e5]
   simp(disch:=omega)
   exact bad fun h=>ZH9 hj hjp (by rw [List.getElem_map];exact e5) h.2.1
 ·have e6:=ZHu k2 Zo (by rw [Yh];omega)
  simp(disch:=omega)
  rw [ZDz ⟨e1,e6,e3,e4⟩] at hQ
  exact hQ
def ZKe (H:Has S) (R:HR S) {m1 m2:Mo} (h1:Ok Co.okn m1.cs) (h2:Ok Co.okn m2.cs) (w1:ZH8 m1) (w2:ZH8 m2) {b:List Rz} (hb:(b++(ZDP Co.nm m1.cs).flatMap (Co.rsn m2)).length<68719476736)
  (hQ:Q [] [[.tip 2 (rzs (b++(ZDP Co.nm m1.cs).flatMap (Co.rsn m2)))]]):Gives S ZHe [.one (.ref ⟨false,0,0⟩),.agg m1.cs',.agg m2.cs'] [[.tip 2 (rzs b)]] Q:=by
 have n1:=h1.1
 have n2:=h2.1
 have b1:(m1.cs.map Co.row).length=m1.cs.length:=Yh _
 have b2:(m2.cs.map Co.row).length=m2.cs.length:=Yh _
 refine .code R.zuReasonsConfsq rfl ?_
 simp(disch:=omega)[ZHo]
 refine Lp.rule (fun (i:Nat)=>[(0,.a (.one (.ref ⟨false,0,0⟩))),(4,.a (.one (.ref ⟨true,10004,0⟩))),(5,.a (.one (.ref ⟨true,10005,0⟩))),(6,.a (pi i)),(9999,.objs [[.tip 2 (rzs (upTo Co.nm (Co.rsn m2) m1.cs b i))]]),(10004,.a (.agg m1.cs')),(10005,.a (.agg m2.cs'))]) (fun i=>i<=m1.cs.length) (fun i=>m1.cs.length-i) (a₀:=0) (by simp [ZHI]) (Yd _) ?_
 intro i k1
 by_cases hi:i<m1.cs.length
 ·have r1:=ZG2 (f:=Co.row) (l:=m1.cs) (j:=i) Zo
  have hlen:=ZHZ (f:=Co.nm) (g:=Co.rsn m2) (b:=b) (i:=i+1) (l:=m1.cs) hi
  have hx:=h1.get hi
  have hxw:=w1 _ (Yl hi)
  have hl1:=hx.1.1.1.1
  have hl2:=hx.1.2
  simp(disch:=omega)[r1]
  refine ZJs R n1 w1 hxw (fun h=>absurd rfl (h _ (Yl hi))) fun j hj=>?_
  obtain ⟨e1,e2⟩:=ZHN hi hj
  by_cases hji:j=i
  rotate_left
  ·have hji': ¬(j:Int)=i:=by omega
   simp(disch:=omega)[hji,hji']
   exact RdN.mk (i+1) (by rw [ZIh fun h=>hji (e1.2 h)];simp) hi Zo
  have ey:=ZHz (g:=Co.rsn m2) (b:=b) hi (e1.1 hji)
  subst hji
  simp(disch:=omega)[r1]
  generalize upTo Co.nm (Co.rsn m2) m1.cs b j=b' at*
  rw [ey] at hlen
  have enm:m1.cs[j].nm=m1.cs[j].t.s++[58]++m1.cs[j].p:=rfl
  refine ZJs R n2 w2 hxw (fun h=>?_) (fun k hk=>?_)
  ·rw [show m1.cs[j].rsn m2=[(6,ZDJ [m1.cs[j].nm])] from by rw [Co.rsn,ZEC h],dot1,enm] at ey hlen
   simp(disch:=omega)[r1]
   have hb':=Nat.lt_of_le_of_lt hlen hb
   rw [YE,List.length_singleton] at hb'
   refine ZIf R (by rw [YE,List.length_singleton];exact hb') ?_
   simp(disch:=omega)
   exact RdN.mk (j+1) (by rw [ey];simp) hi Zo
  ·have hk1:=hk.1
   have r2:=ZG2 (f:=Co.row) (l:=m2.cs) (j:=k) Zo
   rw [show m1.cs[j].rsn m2=if dq (m1.cs[j].sim m2.cs[k]) then [] else [(6,ZDJ [m1.cs[j].nm])] from by rw [Co.rsn,ZD2 hk],dot1,enm] at ey hlen
   simp(disch:=omega)[r1,r2]
   refine ZJc H R hx (h2.get hk1) ?_
   by_cases c5:m1.cs[j].sim m2.cs[k]
   ·rw [ZDz c5,if_pos rfl,List.append_nil] at ey
    rw [ZDz c5]
    simp(disch:=omega)
    exact RdN.mk (j+1) (by rw [ey];simp) hi Zo
   ·rw [ZDy c5,if_neg Zd] at ey hlen
    rw [ZDy c5]
    simp(disch:=omega)
    have hb':=Nat.lt_of_le_of_lt hlen hb
    rw [YE,List.length_singleton] at hb'
    refine ZIf R (by rw [YE,List.length_singleton];exact hb') ?_
    simp(disch:=omega)
    exact RdN.mk (j+1) (by rw [ey];simp) hi Zo
 ·rw [show i=m1.cs.length by omega,ZHY]
  simp(disch:=omega)
  exact hQ
def ZJx {s:LN} (h:47∉s):bse s=s:=by
 unfold bse
 induction s with
 | nil=>rfl
 | cons a s ih=>
   simp only [Yv,not_or] at h
   rw [List.takeWhile_cons,if_pos (by simpa using Ne.symm h.1),ih h.2]
def ZJK {s:LN} (h:47∈s):s.take (s.idxOf 47)=bse s:=by
 unfold bse
 induction s with
 | nil=>cases h
 | cons a s ih=>
   by_cases ha:a=47
   · subst ha;simp
   · have hs:47∈s:=by simpa [Ne.symm ha] using h
     have e1:(a::s).idxOf 47=s.idxOf 47+1:=by rw [List.idxOf_cons,beq_false_of_ne ha];rfl
     rw [e1,List.take_succ_cons,ih hs,List.takeWhile_cons,if_pos (by simpa using ha)]
def ZKm {s:LN}:47∉bse s:=by
 unfold bse
 induction s with
 | nil=>simp
 | cons a s ih=>
   rw [List.takeWhile_cons]
   split
   · rename_i h
     intro hm
     rcases List.mem_cons.1 hm with e|hm
     · subst e;simp at h
     · exact ih hm
   · simp
def ZJl {s:LN}:(bse s=s)↔47∉s:=⟨fun h=>h ▸ ZKm,ZJx⟩
def ZIR (R:HR S) {s:LN} (hs:s.length<=300000) (hQ:Q [ps (bse s)] []):Gives S ZHW [ps s] [] Q:=by
 refine .code R.zuStemq rfl ?_
 simp(disch:=omega)[ZIq]
 refine R.ib s 47 Zd hs (fun h=>?_) (fun h=>?_)
 ·simp(disch:=omega)
  rwa [ZJx h] at hQ
 ·have hi:=List.idxOf_lt_length_iff.2 h
  have h0: ¬((s.idxOf 47:Nat):Int)<0:=by omega
  simp(disch:=omega)[h0]
  rwa [ZJK h]
noncomputable def Fu.ren (f:Fu) (gs:List LN):Fu:=⟨f.s,gs,f.rs.map (Re.put f.gs gs),f.ps.map (Pa.put f.gs gs),f.r.put f.gs gs,f.e.put f.gs gs,f.b⟩
def ZJu (H:Has S) (R:HR S) {f:Fu} {gs:List LN} (hf:f.okn) (hg:Sns gs) (hl:f.gs.length=gs.length) (hQ:Q [.agg ((f.ren gs).row.map .p)] []):Gives S ZHH [.agg (f.row.map .p),.one (.l 1 (strs gs))] [] Q:=by
 obtain ⟨⟨x1,x2,x3,x4,x5,x6⟩,x7⟩:=hf
 have a1:=x3.1
 have a2:=x4.1
 have a3:=hg.1
 have gf:(strs f.gs).length=f.gs.length:=by simp [strs]
 have gg:(strs gs).length=gs.length:=by simp [strs]
 have b1:(f.rs.map Re.row).length=f.rs.length:=Yh _
 have b2:(f.ps.map Pa.row).length=f.ps.length:=Yh _
 refine .code R.zuRenamed rfl ?_
 simp(disch:=omega)[ZH4]
 simp(disch:=omega)[gf,gg,hl]
 refine ZhD H hg.1 ?_
 simp(disch:=omega)
 refine Lp.rule (fun (j:Nat)=>[(1,.a (.one (.l 1 (strs gs)))),(2,.a (.one (.ref ⟨true,10002,0⟩))),(4,.a (.one (.ref ⟨true,10004,0⟩))),(5,.a (.one (.ref ⟨true,10005,0⟩))),(6,.a (pi j)),o9,(10002,.a (.agg (f.row.map .p))),
  (10004,.a (.agg [.s [],.tip 1 [],.tip 10 [],.tip 6 [],.i 0,.s [],.i 0,.tip 4 [],.i 0,.s [],.i 0,.tip 4 [],.i 0,.s [],.i 0,.i 0,.s [],.i 0,.tip 4 [],.tip 4 [],.tip 10 [],.i 0])),
  (10005,.a (.agg ([.s f.s,.l 1 (strs gs),.tip 10 (((f.rs.map (Re.put f.gs gs)).map Re.row).take j),.l 6 (f.ps.map Pa.row)]++(f.row.map .p).drop 4)))]) (fun j=>j<=f.rs.length) (fun j=>f.rs.length-j) (a₀:=0) Zs (Yd _) ?_
 intro j k1
 by_cases hj:j<f.rs.length
 ·have r1:=ZG2 (f:=Re.row) (l:=f.rs) (j:=j) Zo
  have hq:=x3.get hj
  have el:(((f.rs.map (Re.put f.gs gs)).map Re.row).take j).length<=100000:=by simp;omega
  simp(disch:=omega)[r1]
  refine ZJj H R x2 hg hq.2.1 ?_
  simp(disch:=omega)[r1]
  refine ZJj H R x2 hg hq.2.2 ?_
  simp(disch:=omega)[r1]
  exact RdN.mk (j+1) (by simp [Ym,Ya hj,Re.put]) hj Zo
 rw [show ((f.rs.map (Re.put f.gs gs)).map Re.row).take j=(f.rs.map (Re.put f.gs gs)).map Re.row from Yg Ze]
 simp(disch:=omega)
 refine Lp.rule (fun (j:Nat)=>[(1,.a (.one (.l 1 (strs gs)))),(2,.a (.one (.ref ⟨true,10002,0⟩))),(4,.a (.one (.ref ⟨true,10004,0⟩))),(5,.a (.one (.ref ⟨true,10005,0⟩))),(8,.a (pi j)),o9,(10002,.a (.agg (f.row.map .p))),
  (10004,.a (.agg [.s [],.tip 1 [],.tip 10 [],.tip 6 [],.i 0,.s [],.i 0,.tip 4 [],.i 0,.s [],.i 0,.tip 4 [],.i 0,.s [],.i 0,.i 0,.s [],.i 0,.tip 4 [],.tip 4 [],.tip 10 [],.i 0])),
  (10005,.a (.agg ([.s f.s,.l 1 (strs gs),.tip 10 ((f.rs.map (Re.put f.gs gs)).map Re.row),.tip 6 (((f.ps.map (Pa.put f.gs gs)).map Pa.row).take j)]++(f.row.map .p).drop 4)))]) (fun j=>j<=f.ps.length) (fun j=>f.ps.length-j) (a₀:=0) Zs (Yd _) ?_
 clear hj k1 j
 intro j k1
 by_cases hj:j<f.ps.length
 ·have r1:=ZG2 (f:=Pa.row) (l:=f.ps) (j:=j) Zo
  have hq:=x4.get hj
  have el:(((f.ps.map (Pa.put f.gs gs)).map Pa.row).take j).length<=100000:=by simp;omega
  simp(disch:=omega)[r1]
  refine ZJj H R x2 hg hq.2 ?_
  simp(disch:=omega)[r1]
  exact RdN.mk (j+1) (by simp [Ym,Ya hj,Pa.put]) hj Zo
 rw [show ((f.ps.map (Pa.put f.gs gs)).map Pa.row).take j=(f.ps.map (Pa.put f.gs gs)).map Pa.row from Yg Ze]
 simp(disch:=omega)
 refine ZJj H R x2 hg x5 ?_
 simp(disch:=omega)
 refine ZJj H R x2 hg x6 ?_
 simp(disch:=omega)
 simpa [Fu.ren] using hQ
def ZJI (H:Has S) (R:HR S) {l m:List Re} (hl:Ok Re.ok l) (hm:Ok Re.ok m) (hQ:Q [pb (dq (l=m))] []):Gives S ZHS [.one (.l 10 (l.map Re.row)),.one (.l 10 (m.map Re.row))] [] Q:=by
 have g1:=hl.1
 have g2:=hm.1
 have e1:(l.map Re.row).length=l.length:=Yh _
 have e2:(m.map Re.row).length=m.length:=Yh _
 refine .code R.zaEqReqs rfl ?_
 simp(disch:=omega)[ZIc]
 by_cases hlen:l.length=m.length
 ·simp(disch:=omega)[hlen]
  refine Lp.rule (fun (j:Nat)=>[(0,.a (.one (.l 10 (l.map Re.row)))),(1,.a (.one (.l 10 (m.map Re.row)))),(5,.a (pi j)),o9]) (fun j=>j<=l.length/\l.take j=m.take j) (fun j=>l.length-j) (a₀:=0) Zs ⟨Yd _,by simp⟩ ?_
  rintro j ⟨k1,k2⟩
  by_cases hj:j<l.length
  ·have hjm:j<m.length:=by omega
   have r1:=ZG2 (f:=Re.row) (l:=l) (j:=j) Zo
   have r2:=ZG2 (f:=Re.row) (l:=m) (j:=j) Zo
   simp(disch:=omega)[r1,r2]
   refine ZJy H R (hl.get hj) (hm.get hjm) ?_
   by_cases he:l[j]=m[j]
   ·rw [ZDz he]
    simp(disch:=omega)
    exact RdN.mk (j+1) Zs ⟨hj,ZHh k2 hj hjm he⟩ Zo
   ·rw [ZDy he]
    simp(disch:=omega)
    rw [ZDy (ZH9 hj hjm he)] at hQ
    exact hQ
  ·simp(disch:=omega)
   rw [ZDz (ZHu k2 Zo Zo)] at hQ
   exact hQ
 ·simp(disch:=omega)[hlen]
  rw [ZDy fun h=>hlen (by rw [h])] at hQ
  exact hQ
def ZI0 {s t:LN}:ZFI s=ZFI t↔(47∈s↔47∈t):=by
 unfold ZFI
 rw [List.elem_eq_mem,List.elem_eq_mem,Bool.eq_iff_iff,decide_eq_true_iff,decide_eq_true_iff]
def ZJC {s:LN}:(bse s).length<=s.length:=(List.takeWhile_sublist _).length_le
def ZJE (H:Has S) (R:HR S) {a b:Fu} (ha:a.okn) (hb:b.okn) (hQ:Q [pb (dq (b.ent a))] []):Gives S ZHB [.agg (a.row.map .p),.agg (b.row.map .p)] [] Q:=by
 have ha0:=ha
 have hb0:=hb
 obtain ⟨⟨x1,x2,x3,x4,x5,x6⟩,x7⟩:=ha
 obtain ⟨⟨y1,y2,y3,y4,y5,y6⟩,y7⟩:=hb
 have s1:=x1.1
 have s2:=y1.1
 have t1:=ZJC (s:=a.s)
 have t2:=ZJC (s:=b.s)
 have a1:=x3.1
 have a2:=x4.1
 have a3:=y3.1
 have a4:=y4.1
 have gf:(strs a.gs).length=a.gs.length:=by simp [strs]
 have gg:(strs b.gs).length=b.gs.length:=by simp [strs]
 have b1:(a.ps.map Pa.row).length=a.ps.length:=Yh _
 have b2:(b.ps.map Pa.row).length=b.ps.length:=Yh _
 have bad: ¬b.ent a->Q [pb false] []:=fun h=>by rw [ZDy h] at hQ;exact hQ
 refine .code R.zuEntryq rfl ?_
 simp(disch:=omega)[ZIe]
 refine ZIR R Zo ?_
 simp(disch:=omega)
 refine ZIR R Zo ?_
 simp(disch:=omega)
 refine ZIR R Zo ?_
 by_cases c1:bse a.s=bse b.s
 rotate_left
 ·simp(disch:=omega)[c1]
  exact bad fun h=>c1 h.1.symm
 simp(disch:=omega)[c1]
 refine ZIR R Zo ?_
 by_cases c2:ZFI b.s=ZFI a.s
 rotate_left
 ·have c2': ¬(decide (bse b.s=a.s)=decide (bse b.s=b.s)):=fun h=>c2 (ZI0.2 (by
   have h2:(bse b.s=a.s)↔(bse b.s=b.s):=by simpa [decide_eq_decide] using h
   rw [<-c1,ZJl,c1,ZJl] at h2
   exact (Decidable.not_iff_not.1 h2).symm))
  have c3:=bne_iff_ne.2 c2'
  simp(disch:=omega)[c3]
  exact bad fun h=>c2 h.2.1
 have c2':decide (bse b.s=a.s)=decide (bse b.s=b.s):=by
  have h:=ZI0.1 c2
  rw [decide_eq_decide,<-c1,ZJl,c1,ZJl]
  exact not_congr h.symm
 have c3:(decide (bse b.s=a.s) !=decide (bse b.s=b.s))=false:=by rw [c2'];simp
 by_cases c4:a.gs.length=b.gs.length
 rotate_left
 ·have c4': ¬(a.gs.length:Int)=b.gs.length:=by omega
  simp(disch:=omega)[c3,gf,gg,c4,c4']
  exact bad fun h=>c4 h.2.2.1.symm
 by_cases c5:a.ps.length=b.ps.length
 rotate_left
 ·have c5': ¬(a.ps.length:Int)=b.ps.length:=by omega
  simp(disch:=omega)[c3,gf,gg,c4,c5,c5']
  exact bad fun h=>c5 (by have:=congrArg List.length h.2.2.2.2.1;simpa using this.symm)
 simp(disch:=omega)[c3,gf,gg,c4,c5]
 refine ZJu H R ha0 y7 c4 ?_
 obtain ⟨x,hx⟩: ∃x,x=a.ren b.gs:=⟨_,rfl⟩
 have z1:Ok Re.ok x.rs:=by rw [hx];exact x3.map Re.put_ok
 have z2:Ok Pa.ok x.ps:=by rw [hx];exact x4.map Pa.put_ok
 have z3:x.r.fw:=by rw [hx];exact Ty.put_fw x5
 have z4:x.e.fw:=by rw [hx];exact Ty.put_fw x6
 have z5:x.ps.length=a.ps.length:=by rw [hx];exact Yh _
 have he:b.ent a↔b.rs=x.rs/\b.ps.map Pa.bare=x.ps.map Pa.bare/\b.r=x.r/\b.e=x.e:=by
  rw [hx]
  exact ⟨fun h=>h.2.2.2,fun h=>⟨c1.symm,c2,c4.symm,h⟩⟩
 rw [<-hx]
 clear hx
 have b3:(x.ps.map Pa.row).length=x.ps.length:=Yh _
 simp(disch:=omega)
 refine Lp.rule (fun (k:Nat)=>[(3,.a (.one (.ref ⟨true,10003,0⟩))),(6,.a (.one (.ref ⟨true,10006,0⟩))),(7,.a (pi k)),o9,(10003,.a (.agg (b.row.map .p))),(10006,.a (.agg (x.row.map .p)))]) (fun k=>k<=x.ps.length/\(x.ps.map Pa.bare).take k=(b.ps.map Pa.bare).take k) (fun k=>x.ps.length-k) (a₀:=0) Zs ⟨Yd _,by simp⟩ ?_
 rintro k ⟨l1,l2⟩
 by_cases hk:k<x.ps.length
 ·have hkm:k<b.ps.length:=by omega
  have hkp:k<(x.ps.map Pa.bare).length:=by rw [Yh];exact hk
  have hkq:k<(b.ps.map Pa.bare).length:=by rw [Yh];exact hkm
  have r3:=ZG2 (f:=Pa.row) (l:=x.ps) (j:=k) Zo
  have r4:=ZG2 (f:=Pa.row) (l:=b.ps) (j:=k) Zo
  have badk: ¬(x.ps[k].bare=b.ps[k].bare)->Q [pb false] []:=fun h=>bad fun h'=>ZH9 hkp hkq (by rw [List.getElem_map,List.getElem_map];exact h) (he.1 h').2.1.symm
  by_cases e1:x.ps[k].o=b.ps[k].o
  rotate_left
  ·simp(disch:=omega)[r3,r4,e1]
   exact badk fun h=>e1 (congrArg (·.1) h)
  simp(disch:=omega)[r3,r4,e1]
  refine ZI6 H (z2.get hk).2 (y4.get hkm).2 ?_
  by_cases e2:x.ps[k].t=b.ps[k].t
  ·rw [ZDz e2]
   simp(disch:=omega)
   exact RdN.mk (k+1) Zs ⟨hk,ZHh l2 hkp hkq (by rw [List.getElem_map,List.getElem_map,Pa.bare,Pa.bare,e1,e2])⟩ Zo
  ·rw [ZDy e2]
   simp(disch:=omega)
   exact badk fun h=>e2 (congrArg (·.2) h)
 have l3:=ZHu l2 (by rw [Yh];omega) (by rw [Yh];omega)
 simp(disch:=omega)
 refine ZJI H R z1 y3 ?_
 by_cases d1:x.rs=b.rs
 rotate_left
 ·rw [ZDy d1]
  simp(disch:=omega)
  exact bad fun h=>d1 (he.1 h).1.symm
 rw [ZDz d1]
 simp(disch:=omega)
 refine ZI6 H z3 y5 ?_
 by_cases d2:x.r=b.r
 rotate_left
 ·rw [ZDy d2]
  simp(disch:=omega)
  exact bad fun h=>d2 (he.1 h).2.2.1.symm
 rw [ZDz d2]
 simp(disch:=omega)
 refine ZI6 H z4 y6 ?_
 by_cases d3:x.e=b.e
 rotate_left
 ·rw [ZDy d3]
  simp(disch:=omega)
  exact bad fun h=>d3 (he.1 h).2.2.2.symm
 rw [ZDz d3]
 simp(disch:=omega)
 rw [ZDz (he.2 ⟨d1.symm,l3.symm,d2.symm,d3.symm⟩)] at hQ
 exact hQ
def ZJw (H:Has S) (R:HR S) {m:Mo} {f:Fu} (hm:Ok Fu.okn m.fs) (hf:f.okn) (hQ0:(∀g∈m.fs,¬g.ent f)->Q [ps [],pb false] []) (hQ1: ∀(i:Nat) (hi:i<m.fs.length),m.fs[i].ent f->(∀g∈m.fs.take i,¬g.ent f)->Q [ps m.fs[i].s,pb true] []):
  Gives S ZH5 [.agg m.cs',.agg (f.row.map .p)] [] Q:=by
 have n1:=hm.1
 have b1:(m.fs.map Fu.row).length=m.fs.length:=Yh _
 refine .code R.zuEntry rfl ?_
 simp(disch:=omega)[ZIo]
 refine Lp.rule (fun (i:Nat)=>[(2,.a (.one (.ref ⟨true,10002,0⟩))),(3,.a (.one (.ref ⟨true,10003,0⟩))),(6,.a (pi i)),o9,(10002,.a (.agg m.cs')),(10003,.a (.agg (f.row.map .p)))]) (fun i=>i<=m.fs.length/\ ∀g∈m.fs.take i,¬g.ent f) (fun i=>m.fs.length-i) (a₀:=0) Zs ⟨Yd _,by simp⟩ ?_
 rintro i ⟨k1,k2⟩
 by_cases hi:i<m.fs.length
 ·have r1:=ZG2 (f:=Fu.row) (l:=m.fs) (j:=i) Zo
  simp(disch:=omega)[r1]
  refine ZJE H R hf (hm.get hi) ?_
  by_cases he:m.fs[i].ent f
  ·rw [ZDz he]
   simp(disch:=omega)[r1]
   exact hQ1 i hi he k2
  ·rw [ZDy he]
   simp(disch:=omega)
   exact RdN.mk (i+1) Zs ⟨hi,fun g hg=>by
    rw [Ym,Ya hi,Ys] at hg
    rcases hg with hg|hg
    ·exact k2 g hg
    ·simp at hg;rw [hg];exact he⟩ Zo
 ·simp(disch:=omega)
  exact hQ0 (by rwa [Yg Zo] at k2)
def ZI2 (m:Mo) (i:Nat):LP:=strs ((m.cs.take i).flatMap Co.fs)
def ZJf {m:Mo}:ZI2 m 0=[]:=by simp [ZI2,strs]
def ZIY {m:Mo} {i:Nat} (hi:i<m.cs.length):ZI2 m (i+1)=ZI2 m i++strs m.cs[i].fs:=by
 rw [ZI2,Ym,Ya hi,List.flatMap_append]
 simp [strs,ZI2]
def ZIE {m:Mo}:ZI2 m m.cs.length=strs (m.cs.flatMap Co.fs):=by rw [ZI2,List.take_length]
def ZIl {m:Mo} (hm:Ok Co.okn m.cs) {i:Nat}:(ZI2 m i).length<=100000*100000:=by
 rw [ZI2,strs,Yh]
 refine Yy (ZIA (k:=100000) fun x hx=>(hm.2 x (List.mem_of_mem_take hx)).1.1.2.2.2.2.2) (YI _ ?_)
 have:=hm.1
 rw [List.length_take]
 omega
def ZIj (R:HR S) {m:Mo} (hm:Ok Co.okn m.cs) (hQ:Q [.one (.p (.sl 1 (strs (m.cs.flatMap Co.fs))))] []):Gives S ZHs [.agg m.cs'] [] Q:=by
 have n1:=hm.1
 have b1:(m.cs.map Co.row).length=m.cs.length:=Yh _
 refine .code R.zuWitnessesq rfl ?_
 simp(disch:=omega)[ZHA]
 refine Lp.rule (fun (i:Nat)=>[(1,.a (.one (.ref ⟨true,10001,0⟩))),(3,.a (.one (.tip 1 (ZI2 m i)))),(4,.a (pi i)),o9,(10001,.a (.agg m.cs'))]) (fun i=>i<=m.cs.length) (fun i=>m.cs.length-i) (a₀:=0) (by simp [ZJf]) (Yd _) ?_
 intro i k1
 by_cases hi:i<m.cs.length
 ·have r1:=ZG2 (f:=Co.row) (l:=m.cs) (j:=i) Zo
  have hfl:=(hm.get hi).1.1.2.2.2.2.2
  have e1:=ZIl hm (i:=i)
  have e2:(strs m.cs[i].fs).length=m.cs[i].fs.length:=by simp [strs]
  simp(disch:=omega)[r1]
  exact RdN.mk (i+1) (by rw [ZIY hi];simp) hi Zo
 ·rw [show i=m.cs.length by omega]
  simp(disch:=omega)
  rwa [ZIE]
end Go.Am.Fe
end
