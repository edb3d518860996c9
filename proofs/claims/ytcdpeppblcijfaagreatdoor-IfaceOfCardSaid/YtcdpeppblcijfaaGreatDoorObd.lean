/- Part. -/
import Derived.Test.YtcdpeppblcijfaaGreatDoorObb
set_option maxRecDepth 999999
set_option maxHeartbeats 0
set_option linter.all false
section
namespace Go.Am.Fe
variable {S:SF} {Q:QF}
attribute [local simp] ZbO if_pos if_neg decide_eq_true decide_eq_false Yi Yj ZgF Ops.callv List.idxOf?_cons
section
variable {m1 m2:Mo} {b:List Rz} {i:Nat}
end
end Go.Am.Fe
end
section
namespace Go.Am.Fe
variable {S:SF} {Q:QF}
attribute [local simp] ZbO if_pos if_neg decide_eq_true decide_eq_false Yi Yj ZgF Ops.callv List.idxOf?_cons
def anyB {α:Type} (l:List α) (p:α->Bool):Bool:=l.any p
def any_nil {α:Type} {p:α->Bool}:anyB [] p=false:=rfl
end Go.Am.Fe
end
set_option maxRecDepth 999999
set_option maxHeartbeats 0
set_option linter.all false
section
namespace Go.Am.Fe
variable {S:SF} {Q:QF}
attribute [local simp] ZbO if_pos if_neg decide_eq_true decide_eq_false Yi Yj ZgF Ops.callv List.idxOf?_cons
def ZLw (R:HR S) {m:Mo} (hm:m.okn) (hb: ∀f∈m.fs,123∉f.s) (hQ:Q [.agg m.bare.cs'] []):Gives S ZKB [.agg m.cs'] [] Q:=by
 have n1:=hm.n.1
 have n2:=hm.f.1
 have b1:(m.ns.map No.row).length=m.ns.length:=Yh _
 have b2:(m.fs.map Fu.row).length=m.fs.length:=Yh _
 refine .code R.zuOf rfl ?_
 simp(disch:=omega)[ZKT]
 obtain ⟨T,hT⟩: ∃T,T=(m.ns.map No.bare).map No.row:=⟨_,rfl⟩
 have hTl:T.length=m.ns.length:=by rw [hT,Yh,Yh]
 have hTs: ∀(j:Nat) (hj:j<m.ns.length),T.take (j+1)=T.take j++[m.ns[j].bare.row]:=fun j hj=>by
  rw [Ym,hT,Yn,Yn,Ya hj];rfl
 obtain ⟨U,hU⟩: ∃U,U=(m.fs.map Fu.bare).map Fu.row:=⟨_,rfl⟩
 have hUl:U.length=m.fs.length:=by rw [hU,Yh,Yh]
 have hUs: ∀(j:Nat) (hj:j<m.fs.length),U.take (j+1)=U.take j++[m.fs[j].bare.row]:=fun j hj=>by
  rw [Ym,hU,Yn,Yn,Ya hj];rfl
 have hcs:m.bare.cs'=[.l 17 T,.l 3 (m.ps.map Pr.row),.l 9 (m.cs.map Co.row),.l 22 U]:=by rw [hT,hU];rfl
 rw [hcs] at hQ
 refine Lp.rule (fun (j:Nat)=>[(1,.a (.one (.ref ⟨true,10001,0⟩))),(2,.a (.one (.ref ⟨true,10002,0⟩))),(3,.a (.one (.ref ⟨true,10003,0⟩))),(4,.a (pi j)),o9,(10001,.a (.agg m.cs')),(10002,.a (.agg [.tip 17 [],.tip 3 [],.tip 9 [],.tip 22 []])),(10003,.a (.agg [.tip 17 (T.take j),.l 3 (m.ps.map Pr.row),.l 9 (m.cs.map Co.row),.tip 22 []]))]) (fun j=>j<=m.ns.length) (fun j=>m.ns.length-j) (a₀:=0) Zs (Yd _) ?_
 intro j k1
 by_cases hj:j<m.ns.length
 ·have r1:=ZH9 (f:=No.row) (l:=m.ns) (j:=j) Zo
  have el:(T.take j).length<=100000:=by rw [List.length_take];omega
  have e1:=hTs j hj
  simp(disch:=omega)[r1]
  exact RdN.mk (j+1) (by rw [e1];simp [No.bare];exact ⟨rfl,rfl,rfl,rfl,rfl,rfl,rfl,rfl,rfl,rfl⟩) hj Zo
 rw [show T.take j=T from Yg Zo]
 simp(disch:=omega)
 refine Lp.rule (fun (j:Nat)=>[(1,.a (.one (.ref ⟨true,10001,0⟩))),(2,.a (.one (.ref ⟨true,10002,0⟩))),(3,.a (.one (.ref ⟨true,10003,0⟩))),(6,.a (pi j)),o9,(10001,.a (.agg m.cs')),(10002,.a (.agg [.tip 17 [],.tip 3 [],.tip 9 [],.tip 22 []])),(10003,.a (.agg [.tip 17 T,.l 3 (m.ps.map Pr.row),.l 9 (m.cs.map Co.row),.tip 22 (U.take j)]))]) (fun j=>j<=m.fs.length) (fun j=>m.fs.length-j) (a₀:=0) Zs (Yd _) ?_
 clear hj k1 j
 intro j k1
 by_cases hj:j<m.fs.length
 ·have r1:=ZH9 (f:=Fu.row) (l:=m.fs) (j:=j) Zo
  have el:(U.take j).length<=100000:=by rw [List.length_take];omega
  have e1:=hUs j hj
  have hs:=(hm.f.get hj).1.1.1
  simp(disch:=omega)[r1]
  refine R.ib _ 123 Zd Zo (fun _=>?_) (fun h=>absurd h (hb _ (Yl hj)))
  simp(disch:=omega)
  exact RdN.mk (j+1) (by rw [e1];simp [Fu.bare];exact ⟨rfl,rfl,rfl,rfl,rfl,rfl,rfl,rfl,rfl,rfl⟩) hj Zo
 ·rw [show U.take j=U from Yg Zo]
  simp(disch:=omega)
  exact hQ
end Go.Am.Fe
end
section
namespace Go.Am.Fe
variable {S:Nat->Option Fn} {Q:List A->List (List C)->Prop}
attribute [local simp] ZbO if_pos if_neg decide_eq_true decide_eq_false Yi Yj ZgF Ops.callv List.idxOf?_cons
structure HY (S:Nat->Option Fn):Prop where
 parseSameListApiTypeq:S ZHf=some (.code ZHe)
 parseSameTypeq:S ZHc=some (.code ZH4)
 parseSameListApiNodeq:S ZHp=some (.code ZHo)
 parseSame:S ZHg=some (.code ZIo)
 ifaceEmptyq:S ZHR=some (.code ZIG)
 ifaceIsX1:S ZI4=some (.code ZJc)
 ifaceIsX2:S ZJb=some (.code ZI5)
 ifaceIs:S ZJf=some (.code ZJI)
 eqN:S ZG3=some (.code ZG7)
 ifaceSameX1:S ZIg=some (.code ZIy)
 eqP:S ZG2=some (.code ZG4)
 ifaceSameNamesX1q:S ZHL=some (.code ZHM)
 ifaceSameNamesq:S ZHm=some (.code ZHV)
 ifaceSameX2X1:S ZIm=some (.code ZIk)
 ifaceSameX2:S ZIe=some (.code ZIH)
 eqC:S ZG5=some (.code ZG9)
 ifaceSameX3:S ZId=some (.code ZIz)
 eqF:S ZG6=some (.code ZHa)
 ifaceSameX4:S ZIi=some (.code ZIB)
 ifaceSame:S ZIN=some (.code ZI8)
 has: ∀{Q:List A->List (List C)->Prop} (s:List Nat),(123∉s)->Q [pb false] []->Gives S ZHS [ps s,ps [123]] [] Q
def ZKd {N s:Nat} {z:List C} (hN:S N=some (.code (eqfC s z))) (hz:z.length=s) {f:Nat} {l l':List (List P)} (hl:l.length<=100000) (hll:l'.length=l.length) (hs: ∀x∈l,x.length=s) (hs': ∀x∈l',x.length=s)
  {r:Nat->Prop} (hp: ∀(j:Nat) (h:j<l.length) (h':j<l'.length) (Q:List A->List (List C)->Prop),Q [pb (dq (r j))] []->Gives S f [.agg (l[j].map .p),.agg (l'[j].map .p)] [] Q) (hQ:Q [pb (dq (∀j,j<l.length->r j))] []):
  Gives S N [.one (.p (.sl s l)),.one (.p (.sl s l')),.one (.clo f [] [])] [] Q:=by
 refine .code hN rfl ?_
 simp(disch:=omega)[eqfC,hll]
 refine Lp.rule (fun (j:Nat)=>[(1,.a (.one (.p (.sl s l')))),(2,.a (.one (.clo f [] []))),(15,.a (.one (.p (.sl s l)))),(16,.a (pi l.length)),(17,.a (pi j)),(9999,.objs [])]) (fun j=>j<=l.length/\ ∀i,i<j->r i) (fun j=>l.length-j) (a₀:=0) Zs ⟨Yd _,by simp⟩ ?_
 rintro j ⟨k1,k2⟩
 by_cases hj:j<l.length
 · have hj':j<l'.length:=by omega
   have e:=hs _ (Yl hj)
   have e':=hs' _ (Yl hj')
   have hd:z.drop l[j].length=[]:=by simp [hz,e]
   have hd':z.drop l'[j].length=[]:=by simp [hz,e']
   simp(disch:=omega)[ZF4 e,ZF4 e',hz,putR e hz,putR e' hz,hd,hd',cutR e,cutR e']
   refine hp j hj hj' _ ?_
   by_cases hr:r j
   ·rw [ZDz hr]
    simp(disch:=omega)
    exact RdN.mk (j+1) Zs ⟨hj,fun i hi=>by
     rcases Yt i j with h|h
     ·exact k2 i h
     ·rw [show i=j by omega];exact hr⟩ Zo
   ·rw [ZDy hr]
    rw [ZDy fun h=>hr (h j hj)] at hQ
    simp(disch:=omega)
    exact hQ
 · simp(disch:=omega)
   rw [ZDz fun i hi=>k2 i Zo] at hQ
   exact hQ
def ZLU (Y:HY S) (hQ:Q [pb true] []):Gives S ZHc [.agg (Ty.zero.row.map .p),.agg (Ty.zero.row.map .p)] [] Q:=by
 rw [ZKS.2]
 refine .code Y.parseSameTypeq rfl ?_
 simp(disch:=omega)[ZH4]
 refine .code Y.parseSameListApiTypeq rfl ?_
 simp(disch:=omega)[ZHe]
 refine Lp.rule (fun (_:Unit)=>[(0,.a (.one (.p (.sl 4 [])))),(1,.a (.one (.p (.sl 4 [])))),(2,.a (.one (.clo ZHc [] []))),(14,.a (pi 0)),(15,.a (pi 0)),(9999,.objs [])]) (fun _=>True) (fun _=>0) (a₀:=()) Zs trivial ?_
 intro _ _
 simp(disch:=omega)
 exact hQ
def ZKr (Y:HY S) (hQ:Q [pb true] []):Gives S ZHg [.agg (Nd.zero.row.map .p),.agg (Nd.zero.row.map .p)] [] Q:=by
 rw [ZKS.1]
 refine .code Y.parseSame rfl ?_
 simp(disch:=omega)[ZIo]
 refine ZLU Y ?_
 simp(disch:=omega)
 refine .code Y.parseSameListApiTypeq rfl ?_
 simp(disch:=omega)[ZHe]
 refine Lp.rule (fun (_:Unit)=>[(0,.a (.one (.p (.sl 4 [])))),(1,.a (.one (.p (.sl 4 [])))),(2,.a (.one (.clo ZHc [] []))),(14,.a (pi 0)),(15,.a (pi 0)),(9999,.objs [])]) (fun _=>True) (fun _=>0) (a₀:=()) Zs trivial ?_
 intro _ _
 simp(disch:=omega)
 refine .code Y.parseSameListApiNodeq rfl ?_
 simp(disch:=omega)[ZHo]
 refine Lp.rule (fun (_:Unit)=>[(0,.a (.one (.p (.sl 10 [])))),(1,.a (.one (.p (.sl 10 [])))),(2,.a (.one (.clo ZHg [] []))),(14,.a (pi 0)),(15,.a (pi 0)),(9999,.objs [])]) (fun _=>True) (fun _=>0) (a₀:=()) Zs trivial ?_
 intro _ _
 simp(disch:=omega)
 exact hQ
def ZKR (Y:HY S) {x:Nd} (hx:x.op≠0) (hQ:Q [pb false] []):Gives S ZHg [.agg (x.row.map .p),.agg (Nd.zero.row.map .p)] [] Q:=by
 rw [ZKS.1]
 refine .code Y.parseSame rfl ?_
 simp(disch:=omega)[ZIo,hx]
 exact hQ
def ZLg (Y:HY S) {x:Nd} (hx:x.op≠0) (hQ:Q [pb false] []):Gives S ZHg [.agg (Nd.zero.row.map .p),.agg (x.row.map .p)] [] Q:=by
 rw [ZKS.1]
 refine .code Y.parseSame rfl ?_
 simp(disch:=omega)[ZIo,hx,Ne.symm hx]
 exact hQ
def ZLu (Y:HY S) {x:Nd} (hx:x.nz) (hQ:Q [pb (dq (x= .zero))] []):Gives S ZHg [.agg (x.row.map .p),.agg (Nd.zero.row.map .p)] [] Q:=by
 rcases hx with rfl|hx
 ·rw [ZDz rfl] at hQ;exact ZKr Y hQ
 ·rw [ZDy (Nd.ne_zero hx)] at hQ;exact ZKR Y hx hQ
def ZKt (Y:HY S) {x:Nd} (hx:x.nz) (hQ:Q [pb (dq (x= .zero))] []):Gives S ZHg [.agg (Nd.zero.row.map .p),.agg (x.row.map .p)] [] Q:=by
 rcases hx with rfl|hx
 ·rw [ZDz rfl] at hQ;exact ZKr Y hQ
 ·rw [ZDy (Nd.ne_zero hx)] at hQ;exact ZLg Y hx hQ
def ZKP (Y:HY S) {x:Nd} (hx:x.nz) (hQ:Q [pb (dq (x= .zero))] []):Gives S ZHR [.agg (x.row.map .p)] [] Q:=by
 refine .code Y.ifaceEmptyq rfl ?_
 simp(disch:=omega)[ZIG]
 refine ZLu Y hx ?_
 simp(disch:=omega)
 exact hQ
def is_z (G:HG S) (Y:HY S) {m:Mo} (hm:m.okn) (h1: ∀x∈m.ns,x.d.nz) (h2: ∀x∈m.fs,x.b.nz) (hb: ∀f∈m.fs,123∉f.s) (hQ:Q [pb (dq m.Z)] []):Gives S ZJf [.agg m.cs'] [] Q:=by
 refine .code Y.ifaceIs rfl ?_
 simp(disch:=omega)[ZJI]
 refine ZFa G.slicesContainsFuncLApiNominalApiNominal G.slicesIndexFuncLApiNominalApiNominal hm.n.1 (fun _ _=>rfl) Pass.nil (by simp [PassR]) (by simp [PassR]) (p:=fun x=> !dq (x.d= .zero)) (fun x hx Q hQ=>?_) ?_
 ·refine .code Y.ifaceIsX1 rfl ?_
  simp(disch:=omega)[ZJc]
  refine ZKP Y (h1 x hx) ?_
  simp(disch:=omega)
  exact hQ
 by_cases hz: ∀x∈m.ns,x.d= .zero
 ·rw [show (m.ns.any fun x=> !dq (x.d= .zero))=false from by
   rw [List.any_eq_false]
   intro x hx
   rw [ZDz (hz x hx)]
   decide]
  rw [show m.Z=(∀x∈m.fs,x.b= .zero) from by simp only [Mo.Z,eq_iff_iff];exact ⟨And.right,fun h=>⟨hz,h⟩⟩] at hQ
  simp(disch:=omega)
  refine ZFa G.slicesContainsFuncLApiFuncApiFunc G.slicesIndexFuncLApiFuncApiFunc hm.f.1 (fun _ _=>rfl) Pass.nil (by simp [PassR]) (by simp [PassR]) (p:=fun x=> !dq (x.b= .zero)) (fun x hx Q hQ=>?_) ?_
  ·refine .code Y.ifaceIsX2 rfl ?_
   simp(disch:=omega)[ZI5]
   refine ZKP Y (h2 x hx) ?_
   by_cases hz:x.b= .zero
   ·rw [ZDz hz] at hQ⊢
    simp(disch:=omega)
    refine Y.has _ (hb x hx) ?_
    simp(disch:=omega)
    exact hQ
   ·rw [ZDy hz] at hQ⊢
    simp(disch:=omega)
    exact hQ
  by_cases hf: ∀x∈m.fs,x.b= .zero
  ·rw [show (m.fs.any fun x=> !dq (x.b= .zero))=false from by
    rw [List.any_eq_false]
    intro x hx
    rw [ZDz (hf x hx)]
    decide]
   rw [ZDz hf] at hQ
   simp(disch:=omega)
   exact hQ
  ·rw [show (m.fs.any fun x=> !dq (x.b= .zero))=true from by
    simp only [Classical.not_forall] at hf
    obtain ⟨x,hx,h⟩:=hf
    exact List.any_eq_true.2 ⟨x,hx,by rw [ZDy h];rfl⟩]
   rw [ZDy hf] at hQ
   simp(disch:=omega)
   exact hQ
 ·rw [show (m.ns.any fun x=> !dq (x.d= .zero))=true from by
   simp only [Classical.not_forall] at hz
   obtain ⟨x,hx,h⟩:=hz
   exact List.any_eq_true.2 ⟨x,hx,by rw [ZDy h];rfl⟩]
  rw [ZDy fun h=>hz h.1] at hQ
  simp(disch:=omega)
  exact hQ
def ZKK (G:HG S) (Y:HY S) {l:List Pa} (hl:Ok Pa.ok l) (hQ:Q [pb true] []):Gives S ZHm [.one (.p (.sl 6 (l.map Pa.row))),.one (.p (.sl 6 (l.map Pa.row)))] [] Q:=by
 refine .code Y.ifaceSameNamesq rfl ?_
 simp(disch:=omega)[ZHV]
 refine ZKd G.slicesEqualFuncLApiParamLApiParamApiParamApiParam rfl (by rw [Yh];exact hl.1) rfl (fun x hx=>by obtain ⟨_,_,rfl⟩:=List.mem_map.1 hx;rfl) (fun x hx=>by obtain ⟨_,_,rfl⟩:=List.mem_map.1 hx;rfl) (r:=fun _=>True) (fun j h h' Q hQ=>?_) ?_
 ·rw [ZDz trivial] at hQ
  rw [List.getElem_map]
  refine .code Y.ifaceSameNamesX1q rfl ?_
  simp(disch:=omega)[ZHM]
  exact hQ
 ·rw [ZDz fun _ _=>trivial]
  simp(disch:=omega)
  exact hQ
def ZMe (G:HG S) (Y:HY S) {x:No} (hx:x.ok) (hd:x.d.nz) (hQ:Q [pb (dq (x.d= .zero))] []):Gives S ZIg [.agg (x.bare.row.map .p),.agg (x.row.map .p)] [] Q:=by
 obtain ⟨_,h1,h2,h3⟩:=hx
 refine .code Y.ifaceSameX1 rfl ?_
 simp(disch:=omega)[ZIy,No.bare]
 refine ZGw G h1 h1 ?_
 rw [ZDz rfl]
 simp(disch:=omega)
 refine ZFT G h2 h2 ?_
 rw [ZDz rfl]
 simp(disch:=omega)
 refine ZFA G h3 h3 ?_
 rw [ZDz rfl]
 simp(disch:=omega)
 refine ZKt Y hd ?_
 simp(disch:=omega)
 exact hQ
def ZMd (G:HG S) (Y:HY S) {x:Pr} (hx:x.ok) (hQ:Q [pb true] []):Gives S ZIe [.agg (x.row.map .p),.agg (x.row.map .p)] [] Q:=by
 obtain ⟨_,h1,h2⟩:=hx
 refine .code Y.ifaceSameX2 rfl ?_
 simp(disch:=omega)[ZIH]
 refine ZFP G h1 h1 ?_
 rw [ZDz rfl]
 simp(disch:=omega)
 refine ZFN G h2 h2 ?_
 rw [ZDz rfl]
 simp(disch:=omega)
 refine ZKd G.slicesEqualFuncLApiMethodLApiMethodApiMethodApiMethod rfl (by rw [Yh];exact h2.1) rfl (fun x hx=>by obtain ⟨_,_,rfl⟩:=List.mem_map.1 hx;rfl) (fun x hx=>by obtain ⟨_,_,rfl⟩:=List.mem_map.1 hx;rfl) (r:=fun _=>True) (fun j h h' Q hQ=>?_) ?_
 ·rw [ZDz trivial] at hQ
  rw [List.getElem_map]
  refine .code Y.ifaceSameX2X1 rfl ?_
  simp(disch:=omega)[ZIk]
  refine ZKK G Y (h2.2 _ (Yl (by simpa using h))).2.1 ?_
  simp(disch:=omega)
  exact hQ
 ·rw [ZDz fun _ _=>trivial]
  simp(disch:=omega)
  exact hQ
def ZL9 (G:HG S) (Y:HY S) {x:Co} (hx:x.ok) (hQ:Q [pb true] []):Gives S ZId [.agg (x.row.map .p),.agg (x.row.map .p)] [] Q:=by
 obtain ⟨_,h1,h2,h3,h4,h5⟩:=hx
 refine .code Y.ifaceSameX3 rfl ?_
 simp(disch:=omega)[ZIz]
 refine ZEE G h1 h1 ?_
 rw [ZDz rfl]
 simp(disch:=omega)
 refine ZGw G h2 h2 ?_
 rw [ZDz rfl]
 simp(disch:=omega)
 refine ZE4 G h3 h3 ?_
 rw [ZDz rfl]
 simp(disch:=omega)
 refine ZEp G h4 h4 ?_
 rw [ZDz rfl]
 simp(disch:=omega)
 refine ZGw G h5 h5 ?_
 rw [ZDz rfl]
 simp(disch:=omega)
 exact hQ
def ZMb (G:HG S) (Y:HY S) {f:Fu} (hf:f.ok) (hd:f.b.nz) (hQ:Q [pb (dq (f.b= .zero))] []):Gives S ZIi [.agg (f.bare.row.map .p),.agg (f.row.map .p)] [] Q:=by
 obtain ⟨x1,x2,x3,x4,x5,x6⟩:=hf
 refine .code Y.ifaceSameX4 rfl ?_
 simp(disch:=omega)[ZIB,Fu.bare]
 refine ZGw G x2 x2 ?_
 rw [ZDz rfl]
 simp(disch:=omega)
 refine ZE4 G x3 x3 ?_
 rw [ZDz rfl]
 simp(disch:=omega)
 refine ZE0 G x4 x4 ?_
 rw [ZDz rfl]
 simp(disch:=omega)
 refine ZKK G Y x4 ?_
 simp(disch:=omega)
 refine ZEE G x5 x5 ?_
 rw [ZDz rfl]
 simp(disch:=omega)
 refine ZEE G x6 x6 ?_
 rw [ZDz rfl]
 simp(disch:=omega)
 refine ZKt Y hd ?_
 simp(disch:=omega)
 exact hQ
def ZLL (G:HG S) (Y:HY S) {m:Mo} (hm:m.okn) (h1: ∀x∈m.ns,x.d.nz) (h2: ∀x∈m.fs,x.b.nz) (hQ:Q [pb (dq m.Z)] []):Gives S ZIN [.agg m.bare.cs',.agg m.cs'] [] Q:=by
 obtain ⟨T,U,hT,hU,gT,gU,e⟩:=ZJk (m:=m)
 have wT: ∀x∈T,x.length=17:=fun x hx=>by
  obtain ⟨j,hj,rfl⟩:=YD hx
  rw [gT j Zo hj]
  rfl
 have wU: ∀x∈U,x.length=22:=fun x hx=>by
  obtain ⟨j,hj,rfl⟩:=YD hx
  rw [gU j Zo hj]
  rfl
 have a1:=hm.n.1
 have a2:=hm.f.1
 rw [e]
 refine .code Y.ifaceSame rfl ?_
 simp(disch:=omega)[ZI8]
 refine ZKd Y.eqN rfl Zo (by rw [Yh];omega) wT (fun x hx=>by obtain ⟨_,_,rfl⟩:=List.mem_map.1 hx;rfl) (r:=fun j=> ∀h:j<m.ns.length,m.ns[j].d= .zero) (fun j h h' Q hQ=>?_) ?_
 ·have hj:j<m.ns.length:=by omega
  have hx:=Yl hj
  rw [List.getElem_map,gT j hj h]
  refine ZMe G Y (hm.n.2 _ hx).1 (h1 _ hx) ?_
  rwa [show (m.ns[j].d= .zero)= ∀h:j<m.ns.length,m.ns[j].d= .zero from by simp only [eq_iff_iff];exact ⟨fun h _=>h,fun h=>h hj⟩]
 rw [show (∀j,j<T.length-> ∀h:j<m.ns.length,m.ns[j].d= .zero)= ∀x∈m.ns,x.d= .zero from by
  simp only [eq_iff_iff]
  exact ⟨fun h x hx=>by obtain ⟨j,hj,rfl⟩:=YD hx;exact h j Zo hj,fun h j _ hj=>h _ (Yl hj)⟩]
 simp(disch:=omega)
 refine ZKd Y.eqP rfl (by rw [Yh];exact hm.p.1) rfl (fun x hx=>by obtain ⟨_,_,rfl⟩:=List.mem_map.1 hx;rfl) (fun x hx=>by obtain ⟨_,_,rfl⟩:=List.mem_map.1 hx;rfl) (r:=fun _=>True) (fun j h h' Q hQ=>?_) ?_
 ·rw [ZDz trivial] at hQ
  rw [List.getElem_map]
  exact ZMd G Y (hm.p.2 _ (Yl (by simpa using h))) hQ
 rw [ZDz fun _ _=>trivial]
 simp(disch:=omega)
 refine ZKd Y.eqC rfl (by rw [Yh];exact hm.c.1) rfl (fun x hx=>by obtain ⟨_,_,rfl⟩:=List.mem_map.1 hx;rfl) (fun x hx=>by obtain ⟨_,_,rfl⟩:=List.mem_map.1 hx;rfl) (r:=fun _=>True) (fun j h h' Q hQ=>?_) ?_
 ·rw [ZDz trivial] at hQ
  rw [List.getElem_map]
  exact ZL9 G Y (hm.c.2 _ (Yl (by simpa using h))).1.1 hQ
 rw [ZDz fun _ _=>trivial]
 simp(disch:=omega)
 refine ZKd Y.eqF rfl Zo (by rw [Yh];omega) wU (fun x hx=>by obtain ⟨_,_,rfl⟩:=List.mem_map.1 hx;rfl) (r:=fun j=> ∀h:j<m.fs.length,m.fs[j].b= .zero) (fun j h h' Q hQ=>?_) ?_
 ·have hj:j<m.fs.length:=by omega
  have hx:=Yl hj
  rw [List.getElem_map,gU j hj h]
  refine ZMb G Y (hm.f.2 _ hx).1 (h2 _ hx) ?_
  rwa [show (m.fs[j].b= .zero)= ∀h:j<m.fs.length,m.fs[j].b= .zero from by simp only [eq_iff_iff];exact ⟨fun h _=>h,fun h=>h hj⟩]
 rw [show (∀j,j<U.length-> ∀h:j<m.fs.length,m.fs[j].b= .zero)= ∀x∈m.fs,x.b= .zero from by
  simp only [eq_iff_iff]
  exact ⟨fun h x hx=>by obtain ⟨j,hj,rfl⟩:=YD hx;exact h j Zo hj,fun h j _ hj=>h _ (Yl hj)⟩]
 unfold Mo.Z at hQ
 by_cases hz: ∀x∈m.ns,x.d= .zero
 ·rw [ZDz hz]
  rw [show ((∀x∈m.ns,x.d=Nd.zero)/\ ∀f∈m.fs,f.b=Nd.zero)= ∀f∈m.fs,f.b=Nd.zero from by simp only [eq_iff_iff];exact ⟨And.right,fun h=>⟨hz,h⟩⟩] at hQ
  simp(disch:=omega)
  exact hQ
 ·rw [ZDy hz]
  rw [ZDy fun h=>hz h.1] at hQ
  simp(disch:=omega)
  exact hQ
def ZJK (H:Has S) (G:HG S) (R:HR S) (Z:HZ S) (Y:HY S) (HL:S ZH0=some (.code ZIt))
  (HA: ∀Q:List A->List (List C)->Prop,Q [pb true] []->Gives S Zd3 [] [] Q)
  (HO: ∀(Q:List A->List (List C)->Prop) (m:Mo),m.Good->Q [.agg m.bare.cs'] []->Gives S ZIj [.agg m.cs'] [] Q) {src:List Nat}
  (HT: ∀Q:List A->List (List C)->Prop,(∀(m:Mo) (ok:Bool),m.Good->(∀x∈m.ns,x.d.nz)->(∀x∈m.fs,x.b.nz)->Q [.agg m.cs',pb ok] [])->Gives S Zgf [ps src,pi 4000] [] Q)
  (hQ:Q [pb true] []):Gives S ZH0 [ps src] [] Q:=by
 refine .code HL rfl ?_
 simp(disch:=omega)[ZIt]
 refine HT _ fun m ok hm h1 h2=>?_
 cases ok
 ·simp(disch:=omega)
  refine HA _ ?_
  simp(disch:=omega)
  exact hQ
 have hb:=Mo.bare_okn hm.okn
 have z1: ∀x∈m.bare.ns,x.d.nz:=fun x hx=> .inl (Mo.bare_Z.1 x hx)
 have z2: ∀x∈m.bare.fs,x.b.nz:=fun x hx=> .inl (Mo.bare_Z.2 x hx)
 have nb: ∀f∈m.bare.fs,123∉f.s:=fun f hf=>by obtain ⟨y,hy,rfl⟩:=List.mem_map.1 hf;exact hm.nobrace y hy
 have t1:=fun Q=>ZJL (Q:=Q) (b:=true) H R Z hb z1 z2
 rw [Mo.bare_bare,ZDz Mo.bare_Z] at t1
 have t2:=fun Q=>is_z (Q:=Q) G Y hb z1 z2 nb
 rw [ZDz Mo.bare_Z] at t2
 simp(disch:=omega)
 refine HO _ m hm ?_
 simp(disch:=omega)
 refine ZLw R hm.okn hm.nobrace ?_
 simp(disch:=omega)
 refine t1 _ ?_
 simp(disch:=omega)
 refine t2 _ ?_
 simp(disch:=omega)
 refine is_z G Y hm.okn h1 h2 hm.nobrace ?_
 simp(disch:=omega)
 refine ZLJ H R Z hm.okn h1 h2 hm.nobrace ?_
 simp(disch:=omega)
 refine ZLL G Y hm.okn h1 h2 ?_
 simp(disch:=omega)
 refine ZLc H R Z hm.okn h1 h2 ?_
 simp(disch:=omega)
 refine HA _ ?_
 simp(disch:=omega)
 exact hQ
end Go.Am.Fe
end
