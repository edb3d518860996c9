/- Part. -/
import Derived.Test.YtcdjoaepciegnaaGreatDoorZau
set_option maxRecDepth 999999
set_option maxHeartbeats 0
set_option linter.all false
section
namespace Go.Am.Fe
variable {S:Nat->Option Fn} {Q:List A->List (List C)->Prop}
attribute [local simp] ZbO if_pos if_neg decide_eq_true decide_eq_false Yi Yj ZgF Ops.callv List.idxOf?_cons
structure Op where
 k:Int
 n:Int
 p:List (List Nat)
abbrev Op.row (x:Op):List P:=[.int .i64 x.k,.int .i64 x.n,.sl 1 (strs x.p)]
def Op.eq_iff {x y:Op}:x=y↔x.k=y.k/\x.n=y.n/\x.p=y.p:=by cases x;cases y;simp
def Op.ok (x:Op):Prop:=x.p.length<=9223372036854775807
structure In where
 o:Int
 d:Int
 a:List Op
 s:List Nat
 n:Int
 t:Ty
 ts:List Ty
 p:List (List Nat)
 to:Int
 er:Int
 e:Int
abbrev In.row (x:In):List P:=[.int .i64 x.o,.int .i64 x.d,.sl 3 (x.a.map Op.row),.str x.s,.int .i64 x.n,.int .i64 x.t.k,.str x.t.s,.int .i64 x.t.n,.sl 4 (Ty.encs x.t.a),.sl 4 (Ty.encs x.ts),.sl 1 (strs x.p),.int .i64 x.to,.int .i64 x.er,.int .i64 x.e]
def In.eq_iff {x y:In}:x=y↔x.o=y.o/\x.d=y.d/\x.a=y.a/\x.s=y.s/\x.n=y.n/\x.t=y.t/\x.ts=y.ts/\x.p=y.p/\x.to=y.to/\x.er=y.er/\x.e=y.e:=by cases x;cases y;simp
def In.ok (x:In):Prop:=Ok Op.ok x.a/\x.t.fw/\Ok Ty.fw x.ts/\x.p.length<=9223372036854775807
structure Sl where
 t:Ty
 m:Int
abbrev Sl.row (x:Sl):List P:=[.int .i64 x.t.k,.str x.t.s,.int .i64 x.t.n,.sl 4 (Ty.encs x.t.a),.int .i64 x.m]
def Sl.eq_iff {x y:Sl}:x=y↔x.t=y.t/\x.m=y.m:=by cases x;cases y;simp
def Sl.ok (x:Sl):Prop:=x.t.fw
structure Cd where
 s:List Nat
 gs:List (List Nat)
 rs:List Re
 n:Int
 sl:List Sl
 r:Ty
 e:Ty
 b:List (List In)
abbrev Cd.row (x:Cd):List P:=[.str x.s,.sl 1 (strs x.gs),.sl 10 (x.rs.map Re.row),.int .i64 x.n,.sl 5 (x.sl.map Sl.row),.int .i64 x.r.k,.str x.r.s,.int .i64 x.r.n,.sl 4 (Ty.encs x.r.a),.int .i64 x.e.k,.str x.e.s,.int .i64 x.e.n,.sl 4 (Ty.encs x.e.a),.sl 1 (x.b.map fun l=>[.sl 14 (l.map In.row)])]
def Cd.eq_iff {x y:Cd}:x=y↔x.s=y.s/\x.gs=y.gs/\x.rs=y.rs/\x.n=y.n/\x.sl=y.sl/\x.r=y.r/\x.e=y.e/\x.b=y.b:=by cases x;cases y;simp
def Cd.ok (x:Cd):Prop:=x.gs.length<=9223372036854775807/\Ok Re.ok x.rs/\Ok Sl.ok x.sl/\x.r.fw/\x.e.fw/\Ok (Ok In.ok) x.b
def ZLg {α:Type} {N s:Nat} {z:List C} (hN:S N=some (.code (eqfC s z))) (hz:z.length=s) {f:Nat} {l l':List α} {w:α->List P} (hl:l.length<=9223372036854775807) (hl':l'.length<=9223372036854775807) (hs: ∀x,(w x).length=s)
  (hp: ∀x∈l,∀y∈l',∀Q,Q [pb (dq (x=y))] []->Gives S f [.agg ((w x).map .p),.agg ((w y).map .p)] [] Q) (hQ:Q [pb (dq (l=l'))] []):
  Gives S N [.one (.p (.sl s (l.map w))),.one (.p (.sl s (l'.map w))),.one (.clo f [] [])] [] Q:=
 ZEU hN hz (Yy hl Zd) (Yy hl' Zd) hs (p:=fun x y=>dq (x=y)) hp (by rw [ZEm fun _ _ _ _=>rfl];exact hQ)
def tysE (H:HM S) {l m:List Ty} (h:Ok Ty.fw l) (h':Ok Ty.fw m) (hQ:Q [pb (dq (l=m))] []):Gives S Za5 [.one (.p (.sl 4 (Ty.encs l))),.one (.p (.sl 4 (Ty.encs m))),.one (.clo Zcr [] [])] [] Q:=by
 rw [Ty.encs_rows,Ty.encs_rows];exact ZLg H.slicesEqualFuncLApiTypeLApiTypeApiTypeApiType rfl h.1 h'.1 (fun _=>rfl) (fun x hx y hy Q hQ=>ZEE H (h.2 x hx) (h'.2 y hy) hQ) hQ
def reE (H:HM S) {x y:Re} (hx:x.ok) (hy:y.ok) (hQ:Q [pb (dq (x=y))] []):Gives S ZHx [.agg (x.row.map .p),.agg (y.row.map .p)] [] Q:=by
 obtain ⟨h1,h2⟩:=hx;obtain ⟨g1,g2⟩:=hy;refine .code H.middleSameReqq rfl ?_;simp(disch:=omega)[ZHS];by_cases e0:x.k=y.k
 ·by_cases e1:x.p=y.p
  ·simp(disch:=omega)[e0,e1];refine ZEE H h1 g1 ?_;by_cases e2:x.t=y.t
   ·rw [ZDz e2];simp(disch:=omega);refine ZEE H h2 g2 ?_;simp(disch:=omega);rwa [show (x=y)=(x.o=y.o) from by simp [Re.eq_iff,e0,e1,e2]] at hQ
   ·rw [ZDy e2];rw [ZDy (by simp [Re.eq_iff,e2])] at hQ;simp(disch:=omega);exact hQ
  ·rw [ZDy (by simp [Re.eq_iff,e1])] at hQ;simp(disch:=omega)[e0,e1];exact hQ
 ·rw [ZDy (by simp [Re.eq_iff,e0])] at hQ;simp(disch:=omega)[e0];exact hQ
def opE (H:HM S) {x y:Op} (hx:x.ok) (hy:y.ok) (hQ:Q [pb (dq (x=y))] []):Gives S ZHA [.agg (x.row.map .p),.agg (y.row.map .p)] [] Q:=by
 refine .code H.middleSameOperandq rfl ?_;simp(disch:=omega)[ZHP];by_cases e0:x.k=y.k
 ·by_cases e1:x.n=y.n
  ·simp(disch:=omega)[e0,e1];refine ZGw H hx hy ?_;simp(disch:=omega);rwa [show (x=y)=(x.p=y.p) from by simp [Op.eq_iff,e0,e1]] at hQ
  ·rw [ZDy (by simp [Op.eq_iff,e1])] at hQ;simp(disch:=omega)[e0,e1];exact hQ
 ·rw [ZDy (by simp [Op.eq_iff,e0])] at hQ;simp(disch:=omega)[e0];exact hQ
def inE (H:HM S) {x y:In} (hx:x.ok) (hy:y.ok) (hQ:Q [pb (dq (x=y))] []):Gives S ZHJ [.agg (x.row.map .p),.agg (y.row.map .p)] [] Q:=by
 obtain ⟨h1,h2,h3,h4⟩:=hx;obtain ⟨g1,g2,g3,g4⟩:=hy;refine .code H.middleSameInstrq rfl ?_;simp(disch:=omega)[ZHX];by_cases e0:x.o=y.o
 ·by_cases e1:x.d=y.d
  ·by_cases e2:x.s=y.s
   ·by_cases e3:x.n=y.n
    ·by_cases e4:x.to=y.to
     ·by_cases e5:x.er=y.er
      ·by_cases e6:x.e=y.e
       ·simp(disch:=omega)[e0,e1,e2,e3,e4,e5,e6];refine ZEE H h2 g2 ?_;by_cases e7:x.t=y.t
        ·rw [ZDz e7];simp(disch:=omega);refine tysE H h3 g3 ?_;by_cases e8:x.ts=y.ts
         ·rw [ZDz e8];simp(disch:=omega);refine ZGw H h4 g4 ?_;by_cases e9:x.p=y.p
          ·rw [ZDz e9];simp(disch:=omega);refine ZLg H.slicesEqualFuncLApiOperandLApiOperandApiOperandApiOperand rfl h1.1 g1.1 (fun _=>rfl) (fun x hx y hy Q hQ=>opE H (h1.2 x hx) (g1.2 y hy) hQ) ?_;simp(disch:=omega);rwa [show (x=y)=(x.a=y.a) from by simp [In.eq_iff,e0,e1,e2,e3,e4,e5,e6,e7,e8,e9]] at hQ
          ·rw [ZDy e9];rw [ZDy (by simp [In.eq_iff,e9])] at hQ;simp(disch:=omega);exact hQ
         ·rw [ZDy e8];rw [ZDy (by simp [In.eq_iff,e8])] at hQ;simp(disch:=omega);exact hQ
        ·rw [ZDy e7];rw [ZDy (by simp [In.eq_iff,e7])] at hQ;simp(disch:=omega);exact hQ
       ·rw [ZDy (by simp [In.eq_iff,e6])] at hQ;simp(disch:=omega)[e0,e1,e2,e3,e4,e5,e6];exact hQ
      ·rw [ZDy (by simp [In.eq_iff,e5])] at hQ;simp(disch:=omega)[e0,e1,e2,e3,e4,e5];exact hQ
     ·rw [ZDy (by simp [In.eq_iff,e4])] at hQ;simp(disch:=omega)[e0,e1,e2,e3,e4];exact hQ
    ·rw [ZDy (by simp [In.eq_iff,e3])] at hQ;simp(disch:=omega)[e0,e1,e2,e3];exact hQ
   ·rw [ZDy (by simp [In.eq_iff,e2])] at hQ;simp(disch:=omega)[e0,e1,e2];exact hQ
  ·rw [ZDy (by simp [In.eq_iff,e1])] at hQ;simp(disch:=omega)[e0,e1];exact hQ
 ·rw [ZDy (by simp [In.eq_iff,e0])] at hQ;simp(disch:=omega)[e0];exact hQ
def slE (H:HM S) {x y:Sl} (hx:x.ok) (hy:y.ok) (hQ:Q [pb (dq (x=y))] []):Gives S ZHD [.agg (x.row.map .p),.agg (y.row.map .p)] [] Q:=by
 refine .code H.middleSameCodeX1q rfl ?_;simp(disch:=omega)[ZHV];by_cases e0:x.m=y.m
 ·simp(disch:=omega)[e0];refine ZEE H hx hy ?_;simp(disch:=omega);rwa [show (x=y)=(x.t=y.t) from by simp [Sl.eq_iff,e0]] at hQ
 ·rw [ZDy (by simp [Sl.eq_iff,e0])] at hQ;simp(disch:=omega)[e0];exact hQ
def blE (H:HM S) {l m:List In} (h:Ok In.ok l) (h':Ok In.ok m) (hQ:Q [pb (dq (l=m))] []):Gives S ZHl [.one (.p (.sl 14 (l.map In.row))),.one (.p (.sl 14 (m.map In.row)))] [] Q:=by
 refine .code H.middleSameCodeX2q rfl ?_;simp(disch:=omega)[ZHU];refine ZLg H.slicesEqualFuncLApiInstrLApiInstrApiInstrApiInstr rfl h.1 h'.1 (fun _=>rfl) (fun x hx y hy Q hQ=>inE H (h.2 x hx) (h'.2 y hy) hQ) ?_;simp(disch:=omega);exact hQ
def ZOi (H:Has S) {a b:List Ty} (h1:Ok Ty.fw a) (h2:Ok Ty.fw b) (hQ:Q [pb (dq (a=b))] []):Gives S ZdD [.one (.p (.sl 4 (Ty.encs a))),.one (.p (.sl 4 (Ty.encs b)))] [] Q:=ZMF H (ZJ0 H _) (Yz _) h1 h2 hQ
def ZK7 (H:Has S) (M:HM S) {x y:In} (hx:x.ok) (hy:y.ok) (hQ:Q [pb (dq (x=y))] []):Gives S ZIA [.agg (x.row.map .p),.agg (y.row.map .p)] [] Q:=by
 obtain ⟨o,d,a,s,n,t,ts,p,to,er,e⟩:=x;obtain ⟨o1,d1,a1,s1,n1,t1,ts1,p1,to1,er1,e1⟩:=y;obtain ⟨h1,h2,h3,h4⟩:=hx;obtain ⟨g1,g2,g3,g4⟩:=hy;dsimp only at h1 h2 h3 h4 g1 g2 g3 g4;have l1:=h1.1;have l2:=g1.1;have b1:(a.map Op.row).length=a.length:=Yh _;have b2:(a1.map Op.row).length=a1.length:=Yh _;refine .code M.zmEqInstr rfl ?_;simp(disch:=omega)[ZJc];by_cases e0:o=o1
 ·subst e0;by_cases e1:d=d1
  ·subst e1;by_cases e2:s=s1
   ·subst e2;by_cases e3:n=n1
    ·subst e3;by_cases e4:to=to1
     ·subst e4;by_cases e5:er=er1
      ·subst e5;by_cases e6:e=e1
       ·subst e6;by_cases hl:a.length=a1.length
        ·simp(disch:=omega)[hl];refine Lp.rule (fun (j:Nat)=>[(2,.a (.one (.ref ⟨true,10002,0⟩))),(3,.a (.one (.ref ⟨true,10003,0⟩))),(5,.a (pi j)),(9999,.objs []),(10002,.a (.agg ((In.mk o d a s n t ts p to er e).row.map .p))),(10003,.a (.agg ((In.mk o d a1 s n t1 ts1 p1 to er e).row.map .p)))]) (fun j=>j<=a.length/\a.take j=a1.take j) (fun j=>a.length-j) (a₀:=0) Zs ⟨Yd _,by simp⟩ ?_;rintro j ⟨k1,k2⟩;by_cases hj:j<a.length
         ·have hj1:j<a1.length:=by omega
          have r1:=ZHk (f:=Op.row) (l:=a) (j:=j) Zo;have r2:=ZHk (f:=Op.row) (l:=a1) (j:=j) Zo;have q1:a[j].p.length<=9223372036854775807:=h1.get hj;have q2:a1[j].p.length<=9223372036854775807:=g1.get hj1;by_cases f0:a[j].k=a1[j].k
          ·by_cases f1:a[j].n=a1[j].n
           ·simp(disch:=omega)[r1,r2,f0,f1];refine ZIO M q1 q2 ?_;by_cases f2:a[j].p=a1[j].p
            ·rw [ZDz f2];simp(disch:=omega);exact RdN.mk (j+1) Zs ⟨hj,ZH4 k2 hj hj1 (Op.eq_iff.2 ⟨f0,f1,f2⟩)⟩ Zo
            ·rw [ZDy f2];rw [ZDy fun h=>ZI6 hj hj1 (fun h=>f2 (by rw [h])) (In.eq_iff.1 h).2.2.1] at hQ;simp(disch:=omega);exact hQ
           ·rw [ZDy fun h=>ZI6 hj hj1 (fun h=>f1 (by rw [h])) (In.eq_iff.1 h).2.2.1] at hQ;simp(disch:=omega)[r1,r2,f0,f1];exact hQ
          ·rw [ZDy fun h=>ZI6 hj hj1 (fun h=>f0 (by rw [h])) (In.eq_iff.1 h).2.2.1] at hQ;simp(disch:=omega)[r1,r2,f0];exact hQ
         obtain rfl:=ZIq k2 Zo Zo;simp(disch:=omega);refine ZLl H h2 g2 ?_;by_cases f0:t=t1
         ·rw [ZDz f0];simp(disch:=omega);refine ZOi H h3 g3 ?_;by_cases f1:ts=ts1
          ·rw [ZDz f1];simp(disch:=omega);refine ZIO M h4 g4 ?_;simp(disch:=omega);rwa [show (In.mk o d a s n t ts p to er e=In.mk o d a s n t1 ts1 p1 to er e)=(p=p1) from by simp [In.eq_iff,f0,f1]] at hQ
          ·rw [ZDy f1];rw [ZDy (by simp [In.eq_iff,f1])] at hQ;simp(disch:=omega);exact hQ
         ·rw [ZDy f0];rw [ZDy (by simp [In.eq_iff,f0])] at hQ;simp(disch:=omega);exact hQ
        ·rw [ZDy fun h=>hl (congrArg List.length (In.eq_iff.1 h).2.2.1)] at hQ;simp(disch:=omega)[hl];exact hQ
       ·rw [ZDy (by simp [In.eq_iff,e6])] at hQ;simp(disch:=omega)[e6];exact hQ
      ·rw [ZDy (by simp [In.eq_iff,e5])] at hQ;simp(disch:=omega)[e5];exact hQ
     ·rw [ZDy (by simp [In.eq_iff,e4])] at hQ;simp(disch:=omega)[e4];exact hQ
    ·rw [ZDy (by simp [In.eq_iff,e3])] at hQ;simp(disch:=omega)[e3];exact hQ
   ·rw [ZDy (by simp [In.eq_iff,e2])] at hQ;simp(disch:=omega)[e2];exact hQ
  ·rw [ZDy (by simp [In.eq_iff,e1])] at hQ;simp(disch:=omega)[e1];exact hQ
 ·rw [ZDy (by simp [In.eq_iff,e0])] at hQ;simp(disch:=omega)[e0];exact hQ
abbrev blR (l:List In):List P:=[.sl 14 (l.map In.row)]
def ZLw (H:Has S) (M:HM S) {x y:Cd} (hx:x.ok) (hy:y.ok) (hQ:Q [pb (dq (x=y))] []):Gives S ZIU [.agg (x.row.map .p),.agg (y.row.map .p)] [] Q:=by
 obtain ⟨s,gs,rs,n,sl,r,e,b⟩:=x;obtain ⟨s1,gs1,rs1,n1,sl1,r1,e1,bb⟩:=y;obtain ⟨h1,h2,h3,h4,h5,h6⟩:=hx;obtain ⟨g1,g2,g3,g4,g5,g6⟩:=hy;dsimp only at h1 h2 h3 h4 h5 h6 g1 g2 g3 g4 g5 g6;have l1:=h3.1;have l2:=g3.1;have l3:=h6.1;have l4:=g6.1;have b1:(sl.map Sl.row).length=sl.length:=Yh _;have b2:(sl1.map Sl.row).length=sl1.length:=Yh _;have b3:(b.map blR).length=b.length:=Yh _;have b4:(bb.map blR).length=bb.length:=Yh _;refine .code M.zmEqCode rfl ?_;simp(disch:=omega)[ZJy];by_cases e0:s=s1
 ·subst e0;simp(disch:=omega);refine ZIO M h1 g1 ?_;by_cases e2:gs=gs1
  ·rw [ZDz e2];subst e2;simp(disch:=omega);refine ZLN H M h2 g2 ?_;by_cases e3:rs=rs1
   ·rw [ZDz e3];subst e3;by_cases e4:n=n1
    ·subst e4;simp(disch:=omega);refine ZLl H h4 g4 ?_;by_cases e5:r=r1
     ·rw [ZDz e5];subst e5;simp(disch:=omega);refine ZLl H h5 g5 ?_;by_cases e6:e=e1
      ·rw [ZDz e6];subst e6;by_cases e7:sl.length=sl1.length
       ·by_cases e8:b.length=bb.length
        ·simp(disch:=omega)[e7,e8];refine Lp.rule (fun (j:Nat)=>[(2,.a (.one (.ref ⟨true,10002,0⟩))),(3,.a (.one (.ref ⟨true,10003,0⟩))),(5,.a (pi j)),(9999,.objs []),(10002,.a (.agg ((Cd.mk s gs rs n sl r e b).row.map .p))),(10003,.a (.agg ((Cd.mk s gs rs n sl1 r e bb).row.map .p)))]) (fun j=>j<=sl.length/\sl.take j=sl1.take j) (fun j=>sl.length-j) (a₀:=0) Zs ⟨Yd _,by simp⟩ ?_;rintro j ⟨k1,k2⟩;by_cases hj:j<sl.length
         ·have hj1:j<sl1.length:=by omega
          have r1:=ZHk (f:=Sl.row) (l:=sl) (j:=j) Zo;have r2:=ZHk (f:=Sl.row) (l:=sl1) (j:=j) Zo;have q1:sl[j].t.fw:=h3.get hj;have q2:sl1[j].t.fw:=g3.get hj1;by_cases f0:sl[j].m=sl1[j].m
          ·simp(disch:=omega)[r1,r2,f0];refine ZLl H q1 q2 ?_;by_cases f2:sl[j].t=sl1[j].t
           ·rw [ZDz f2];simp(disch:=omega);exact RdN.mk (j+1) Zs ⟨hj,ZH4 k2 hj hj1 (Sl.eq_iff.2 ⟨f2,f0⟩)⟩ Zo
           ·rw [ZDy f2];rw [ZDy fun h=>ZI6 hj hj1 (fun h=>f2 (by rw [h])) (Cd.eq_iff.1 h).2.2.2.2.1] at hQ;simp(disch:=omega);exact hQ
          ·rw [ZDy fun h=>ZI6 hj hj1 (fun h=>f0 (by rw [h])) (Cd.eq_iff.1 h).2.2.2.2.1] at hQ;simp(disch:=omega)[r1,r2,f0];exact hQ
         obtain rfl:=ZIq k2 Zo Zo;simp(disch:=omega);refine Lp.rule (fun (j:Nat)=>[(2,.a (.one (.ref ⟨true,10002,0⟩))),(3,.a (.one (.ref ⟨true,10003,0⟩))),(6,.a (pi j)),(9999,.objs []),(10002,.a (.agg ((Cd.mk s gs rs n sl r e b).row.map .p))),(10003,.a (.agg ((Cd.mk s gs rs n sl r e bb).row.map .p)))]) (fun j=>j<=b.length/\b.take j=bb.take j) (fun j=>b.length-j) (a₀:=0) ?h0 ⟨Yd _,by simp⟩ ?_
         case h0=>simp
         clear hj k2 k1 j;rintro j ⟨k1,k2⟩;by_cases hj:j<b.length
         ·have hj1:j<bb.length:=by omega
          have r1:=ZHk (f:=blR) (l:=b) (j:=j) Zo;have r2:=ZHk (f:=blR) (l:=bb) (j:=j) Zo;have q1:=h6.get hj;have q2:=g6.get hj1;have l5:=q1.1;have l6:=q2.1;have b5:(b[j].map In.row).length=b[j].length:=Yh _;have b6:(bb[j].map In.row).length=bb[j].length:=Yh _;by_cases f0:b[j].length=bb[j].length
          ·simp(disch:=omega)[r1,r2,f0];refine Lp.rule (fun (i:Nat)=>[(2,.a (.one (.ref ⟨true,10002,0⟩))),(3,.a (.one (.ref ⟨true,10003,0⟩))),(6,.a (pi j)),(7,.a (pi i)),(9999,.objs []),(10002,.a (.agg ((Cd.mk s gs rs n sl r e b).row.map .p))),(10003,.a (.agg ((Cd.mk s gs rs n sl r e bb).row.map .p)))]) (fun i=>i<=b[j].length/\b[j].take i=bb[j].take i) (fun i=>b[j].length-i) (a₀:=0) Zs ⟨Yd _,by simp⟩ ?_;rintro i ⟨m1,m2⟩;by_cases hi:i<b[j].length
           ·have hi1:i<bb[j].length:=by omega
            have r3:=ZHk (f:=In.row) (l:=b[j]) (j:=i) Zo;have r4:=ZHk (f:=In.row) (l:=bb[j]) (j:=i) Zo;simp(disch:=omega)[r1,r2,r3,r4];refine ZK7 H M (q1.get hi) (q2.get hi1) ?_;by_cases f1:b[j][i]=bb[j][i]
            ·rw [ZDz f1];simp(disch:=omega);exact RdN.mk (i+1) Zs ⟨hi,ZH4 m2 hi hi1 f1⟩ Zo
            ·rw [ZDy f1];rw [ZDy fun h=>ZI6 hj hj1 (ZI6 hi hi1 f1) (Cd.eq_iff.1 h).2.2.2.2.2.2.2] at hQ;simp(disch:=omega);exact hQ
           have f3:=ZIq m2 Zo Zo;simp(disch:=omega)[r1,r2];exact RdN.mk (j+1) Zs ⟨hj,ZH4 k2 hj hj1 f3⟩ Zo
          ·rw [ZDy fun h=>ZI6 hj hj1 (fun h=>f0 (by rw [h])) (Cd.eq_iff.1 h).2.2.2.2.2.2.2] at hQ;simp(disch:=omega)[r1,r2,f0];exact hQ
         obtain rfl:=ZIq k2 Zo Zo;simp(disch:=omega);rw [ZDz rfl] at hQ;exact hQ
        ·rw [ZDy fun h=>e8 (congrArg List.length (Cd.eq_iff.1 h).2.2.2.2.2.2.2)] at hQ;simp(disch:=omega)[e7,e8];exact hQ
       ·rw [ZDy fun h=>e7 (congrArg List.length (Cd.eq_iff.1 h).2.2.2.2.1)] at hQ;simp(disch:=omega)[e7];exact hQ
      ·rw [ZDy e6];rw [ZDy (by simp [Cd.eq_iff,e6])] at hQ;simp(disch:=omega);exact hQ
     ·rw [ZDy e5];rw [ZDy (by simp [Cd.eq_iff,e5])] at hQ;simp(disch:=omega);exact hQ
    ·rw [ZDy (by simp [Cd.eq_iff,e4])] at hQ;simp(disch:=omega)[e4];exact hQ
   ·rw [ZDy e3];rw [ZDy (by simp [Cd.eq_iff,e3])] at hQ;simp(disch:=omega);exact hQ
  ·rw [ZDy e2];rw [ZDy (by simp [Cd.eq_iff,e2])] at hQ;simp(disch:=omega);exact hQ
 ·rw [ZDy (by simp [Cd.eq_iff,e0])] at hQ;simp(disch:=omega)[e0];exact hQ
def ZOG (H:HM S) {l m:List (List In)} (h:Ok (Ok In.ok) l) (h':Ok (Ok In.ok) m) (hQ:Q [pb (dq (l=m))] []):
  Gives S ZG2 [.one (.p (.sl 1 (l.map blR))),.one (.p (.sl 1 (m.map blR))),.one (.clo ZHl [] [])] [] Q:=by
 have l1:=h.1;have l2:=h'.1;have b1:(l.map blR).length=l.length:=Yh _;have b2:(m.map blR).length=m.length:=Yh _;refine .code H.slicesEqualFuncLLApiInstrLLApiInstrLApiInstrLApiInstr rfl ?_;simp(disch:=omega)[ZG6];by_cases hl:l.length=m.length
 ·simp(disch:=omega)[hl];refine Lp.rule (fun (j:Nat)=>[(1,.a (.one (.p (.sl 1 (m.map blR))))),(2,.a (.one (.clo ZHl [] []))),(15,.a (.one (.p (.sl 1 (l.map blR))))),(16,.a (pi m.length)),(17,.a (pi j)),(9999,.objs [])]) (fun j=>j<=l.length/\l.take j=m.take j) (fun j=>l.length-j) (a₀:=0) ?h0 ⟨Yd _,by simp⟩ ?_
  case h0=>simp
  rintro j ⟨k1,k2⟩;by_cases hj:j<l.length
  ·have hj1:j<m.length:=by omega
   have r1:=ZHk (f:=blR) (l:=l) (j:=j) Zo;have r2:=ZHk (f:=blR) (l:=m) (j:=j) Zo;simp(disch:=omega)[r1,r2];refine blE H (h.get hj) (h'.get hj1) ?_;by_cases f1:l[j]=m[j]
   ·rw [ZDz f1];simp(disch:=omega);exact RdN.mk (j+1) (by simp [hl]) ⟨hj,ZH4 k2 hj hj1 f1⟩ Zo
   ·rw [ZDy f1];rw [ZDy (ZI6 hj hj1 f1)] at hQ;simp(disch:=omega);exact hQ
  ·simp(disch:=omega);rw [ZDz (ZIq k2 Zo Zo)] at hQ;exact hQ
 ·rw [ZDy fun h=>hl (congrArg List.length h)] at hQ;simp(disch:=omega)[hl];exact hQ
def cdE (H:HM S) {x y:Cd} (hx:x.ok) (hy:y.ok) (hQ:Q [pb (dq (x=y))] []):Gives S ZHN [.agg (x.row.map .p),.agg (y.row.map .p)] [] Q:=by
 obtain ⟨h1,h2,h3,h4,h5,h6⟩:=hx;obtain ⟨g1,g2,g3,g4,g5,g6⟩:=hy;refine .code H.middleSameCodeq rfl ?_;simp(disch:=omega)[ZH2];by_cases e0:x.s=y.s
 ·by_cases e1:x.n=y.n
  ·simp(disch:=omega)[e0,e1];refine ZGw H h1 g1 ?_;by_cases e2:x.gs=y.gs
   ·rw [ZDz e2];simp(disch:=omega);refine ZLg H.slicesEqualFuncLApiReqLApiReqApiReqApiReq rfl h2.1 g2.1 (fun _=>rfl) (fun x hx y hy Q hQ=>reE H (h2.2 x hx) (g2.2 y hy) hQ) ?_;by_cases e3:x.rs=y.rs
    ·rw [ZDz e3];simp(disch:=omega);refine ZEE H h4 g4 ?_;by_cases e4:x.r=y.r
     ·rw [ZDz e4];simp(disch:=omega);refine ZEE H h5 g5 ?_;by_cases e5:x.e=y.e
      ·rw [ZDz e5];simp(disch:=omega);refine ZLg H.slicesEqualFuncLApiSlotLApiSlotApiSlotApiSlot rfl h3.1 g3.1 (fun _=>rfl) (fun x hx y hy Q hQ=>slE H (h3.2 x hx) (g3.2 y hy) hQ) ?_;by_cases e6:x.sl=y.sl
       ·rw [ZDz e6];simp(disch:=omega);refine ZOG H h6 g6 ?_;simp(disch:=omega);rwa [show (x=y)=(x.b=y.b) from by simp [Cd.eq_iff,e0,e1,e2,e3,e4,e5,e6]] at hQ
       ·rw [ZDy e6];rw [ZDy (by simp [Cd.eq_iff,e6])] at hQ;simp(disch:=omega);exact hQ
      ·rw [ZDy e5];rw [ZDy (by simp [Cd.eq_iff,e5])] at hQ;simp(disch:=omega);exact hQ
     ·rw [ZDy e4];rw [ZDy (by simp [Cd.eq_iff,e4])] at hQ;simp(disch:=omega);exact hQ
    ·rw [ZDy e3];rw [ZDy (by simp [Cd.eq_iff,e3])] at hQ;simp(disch:=omega);exact hQ
   ·rw [ZDy e2];rw [ZDy (by simp [Cd.eq_iff,e2])] at hQ;simp(disch:=omega);exact hQ
  ·rw [ZDy (by simp [Cd.eq_iff,e1])] at hQ;simp(disch:=omega)[e0,e1];exact hQ
 ·rw [ZDy (by simp [Cd.eq_iff,e0])] at hQ;simp(disch:=omega)[e0];exact hQ
def ZJE (H:HM S) {m:Mo} (hm:m.ok) {a b:List Cd} (ha:Ok Cd.ok a) (hb:Ok Cd.ok b) (hQ:Q [pb (dq (a=b))] []):Gives S ZIj [.agg (m.pc (a.map Cd.row)),.agg (m.pc (b.map Cd.row))] [] Q:=by
 refine .code H.middleSame rfl ?_;simp(disch:=omega)[ZIQ];refine ZJp H.slicesEqualFuncLApiNominalLApiNominalApiNominalApiNominal rfl hm.n.1 (fun _=>rfl) (fun x hx Q hQ=>ZOC H (hm.n.2 x hx) hQ) ?_;simp(disch:=omega);refine ZJp H.slicesEqualFuncLApiProtocolLApiProtocolApiProtocolApiProtocol rfl hm.p.1 (fun _=>rfl) (fun x hx Q hQ=>ZOA H (hm.p.2 x hx) hQ) ?_;simp(disch:=omega);refine ZJp H.slicesEqualFuncLApiConfLApiConfApiConfApiConf rfl hm.c.1 (fun _=>rfl) (fun x hx Q hQ=>ZOD H (hm.c.2 x hx) hQ) ?_;simp(disch:=omega);refine ZLg H.slicesEqualFuncLApiCodeLApiCodeApiCodeApiCode rfl ha.1 hb.1 (fun _=>rfl) (fun x hx y hy Q hQ=>cdE H (ha.2 x hx) (hb.2 y hy) hQ) ?_;simp(disch:=omega);exact hQ
def ZNi (H:Has S) (M:HM S) {m:Mo} (hm:m.ok) {a b:List Cd} (ha:Ok Cd.ok a) (hb:Ok Cd.ok b) (hQ:Q [pb (dq (a=b))] []):Gives S ZJt [.agg (m.pc (a.map Cd.row)),.agg (m.pc (b.map Cd.row))] [] Q:=by
 have l1:=ha.1;have l2:=hb.1;have b1:(a.map Cd.row).length=a.length:=Yh _;have b2:(b.map Cd.row).length=b.length:=Yh _;refine .code M.zmSame rfl ?_;simp(disch:=omega)[ZKv];by_cases hl:a.length=b.length
 ·simp(disch:=omega)[hl];refine ZKq M ?_;simp(disch:=omega);refine ZKq M ?_;simp(disch:=omega);refine ZLF H M (m:={m with fs:=[]}) hm.fs ?_;simp(disch:=omega);refine Lp.rule (fun (j:Nat)=>[(2,.a (.one (.ref ⟨true,10002,0⟩))),(3,.a (.one (.ref ⟨true,10003,0⟩))),(5,.a (pi j)),(9999,.objs []),(10002,.a (.agg (m.pc (a.map Cd.row)))),(10003,.a (.agg (m.pc (b.map Cd.row))))]) (fun j=>j<=a.length/\a.take j=b.take j) (fun j=>a.length-j) (a₀:=0) ?h0 ⟨Yd _,by simp⟩ ?_
  case h0=>simp
  rintro j ⟨k1,k2⟩;by_cases hj:j<a.length
  ·have hj1:j<b.length:=by omega
   have r1:=ZHk (f:=Cd.row) (l:=a) (j:=j) Zo;have r2:=ZHk (f:=Cd.row) (l:=b) (j:=j) Zo;simp(disch:=omega)[r1,r2];refine ZLw H M (ha.get hj) (hb.get hj1) ?_;by_cases f1:a[j]=b[j]
   ·rw [ZDz f1];simp(disch:=omega);exact RdN.mk (j+1) Zs ⟨hj,ZH4 k2 hj hj1 f1⟩ Zo
   ·rw [ZDy f1];rw [ZDy (ZI6 hj hj1 f1)] at hQ;simp(disch:=omega);exact hQ
  ·simp(disch:=omega);rw [ZDz (ZIq k2 Zo Zo)] at hQ;exact hQ
 ·rw [ZDy fun h=>hl (congrArg List.length h)] at hQ;simp(disch:=omega)[hl];exact hQ
def ZNp (H:Has S): ∀(nn:Nat) (t:Ty) (mo:Int) (Q:List A->List (List C)->Prop),t.sz<nn->t.fw->(∀x:Int,Q [pi x] [])->Gives S ZcY [.agg t.cs,pi mo] [] Q
 | 0=>fun _ _ _ h=>absurd h (YH _)
 | nn+1=>by
   intro t mo Q hm ht hQ;have ih:=ZNp H nn;have g5:=Ty.fw_len ht;have g6:(Ty.encs t.a).length=t.a.length:=Ty.encs_length;have g7:=Ty.sz_a (t:=t);refine .code H.Zrs rfl ?_;simp(disch:=omega)[ZgV];refine Lp.rule (fun (b:Int×Nat)=>[(1,.a (pi mo)),(2,.a (.one (.ref ⟨true,10002,0⟩))),(5,.a (pi b.1)),(6,.a (pi b.2)),(9999,.objs []),(10002,.a (.agg t.cs))]) (fun b=>b.2<=t.a.length) (fun b=>t.a.length-b.2) (a₀:=(1,0)) Zs (Yd _) ?_;rintro ⟨c,j⟩ k1;dsimp only at k1;by_cases hj:j<t.a.length
   · have e:=Ty.encs_get (l:=t.a) (j:=j) Zo;have q:=Ty.fws_get (Ty.fw_a ht) hj;have q2:=Ty.szs_get hj;simp(disch:=omega)[e]
     repeat' (first
       | exact hQ _
       | exact RdN.mk (_,j+1) rfl hj Zm
       | (refine ih _ _ _ Zo q (fun x=>?_);simp(disch:=omega))
       | (refine Zaf (fun hc=>?_) (fun hc=>?_)<;>simp(disch:=omega)[hc,e]<;>try simp only [Zx4] at hc)
       | (refine Zap (fun hc=>?_) (fun hc=>?_)<;>simp(disch:=omega)[hc,e]<;>try simp only [Zx4] at hc)
       | (refine Zam (fun hc=>?_) (fun hc=>?_)<;>simp(disch:=omega)[hc,e]<;>try simp only [Zx4] at hc)
       | (exfalso;omega))
   · simp(disch:=omega);exact hQ _
def tn_g (H:Has S) {t:Ty} {mo:Int} (ht:t.fw) (hQ: ∀x:Int,Q [pi x] []):Gives S ZcY [.agg t.cs,pi mo] [] Q:=ZNp H _ t mo Q (Yz _) ht hQ
def ZJ1 (H:Has S) (M:HM S) {x:In} (hx:x.ok) (hQ: ∀n:Int,Q [pi n] []):Gives S ZIR [.agg (x.row.map .p)] [] Q:=by
 obtain ⟨h1,h2,h3,h4⟩:=hx;have l1:=h1.1;have l2:=h3.1;have b1:(x.a.map Op.row).length=x.a.length:=Yh _;have b2:(Ty.encs x.ts).length=x.ts.length:=Ty.encs_length;refine .code M.zmWeight rfl ?_;simp(disch:=omega)[ZJF];refine tn_g H h2 fun n0=>?_;simp(disch:=omega);generalize IntKind.i64.wrap (IntKind.i64.wrap (1+n0)+_)=c0;refine Lp.rule (fun (b:Int×Nat)=>[(1,.a (.one (.ref ⟨true,10001,0⟩))),(3,.a (pi b.1)),(4,.a (pi b.2)),(9999,.objs []),(10001,.a (.agg (x.row.map .p)))]) (fun b=>b.2<=x.ts.length) (fun b=>x.ts.length-b.2) (a₀:=(c0,0)) Zs (Yd _) ?_;rintro ⟨c,j⟩ k1;dsimp only at k1;by_cases hb:j<x.ts.length/\c<=1500
 ·obtain ⟨hj,hc⟩:=hb;have e:=Ty.encs_get (l:=x.ts) (j:=j) Zo;simp(disch:=omega)[e,hc];refine tn_g H (h3.get hj) fun y=>?_;simp(disch:=omega);exact RdN.mk (_,j+1) rfl hj Zm
 by_cases hj:j<x.ts.length
 ·have hc: ¬c<=1500:=fun h=>hb ⟨hj,h⟩;simp(disch:=omega)[hc];refine Lp.rule (fun (b:Int×Nat)=>[(1,.a (.one (.ref ⟨true,10001,0⟩))),(3,.a (pi b.1)),(5,.a (pi b.2)),(9999,.objs []),(10001,.a (.agg (x.row.map .p)))]) (fun b=>b.2<=x.a.length) (fun b=>x.a.length-b.2) (a₀:=(c,0)) Zs (Yd _) ?_;clear hb hj k1;rintro ⟨c,j⟩ k1;dsimp only at k1;by_cases hj:j<x.a.length
  ·have r1:=ZHk (f:=Op.row) (l:=x.a) (j:=j) Zo;have q:x.a[j].p.length<=9223372036854775807:=h1.get hj;by_cases hc:c<=1500
   ·simp(disch:=omega)[r1,hc];exact RdN.mk (_,j+1) rfl hj Zm
   ·simp(disch:=omega)[hc];exact hQ _
  ·simp(disch:=omega);exact hQ _
 ·simp(disch:=omega);refine Lp.rule (fun (b:Int×Nat)=>[(1,.a (.one (.ref ⟨true,10001,0⟩))),(3,.a (pi b.1)),(5,.a (pi b.2)),(9999,.objs []),(10001,.a (.agg (x.row.map .p)))]) (fun b=>b.2<=x.a.length) (fun b=>x.a.length-b.2) (a₀:=(c,0)) Zs (Yd _) ?_;clear hb hj k1;rintro ⟨c,j⟩ k1;dsimp only at k1;by_cases hj:j<x.a.length
  ·have r1:=ZHk (f:=Op.row) (l:=x.a) (j:=j) Zo;have q:x.a[j].p.length<=9223372036854775807:=h1.get hj;by_cases hc:c<=1500
   ·simp(disch:=omega)[r1,hc];exact RdN.mk (_,j+1) rfl hj Zm
   ·simp(disch:=omega)[hc];exact hQ _
  ·simp(disch:=omega);exact hQ _
def ZOe (H:Has S) (M:HM S) {x:Cd} (hx:x.ok) (hQ: ∀n:Int,Q [pi n] []):Gives S ZJk [.agg (x.row.map .p)] [] Q:=by
 obtain ⟨h1,h2,h3,h4,h5,h6⟩:=hx;have l1:=h2.1;have l2:=h3.1;have l3:=h6.1;have b1:(x.rs.map Re.row).length=x.rs.length:=Yh _;have b2:(x.sl.map Sl.row).length=x.sl.length:=Yh _;have b3:(x.b.map blR).length=x.b.length:=Yh _;refine .code M.zmBulkq rfl ?_;simp(disch:=omega)[ZJ2];refine tn_g H h4 fun n0=>?_;simp(disch:=omega);refine tn_g H h5 fun n1=>?_;simp(disch:=omega);generalize IntKind.i64.wrap (_+(x.b.length:Int))=c0;refine Lp.rule (fun (b:Int×Nat)=>[(1,.a (.one (.ref ⟨true,10001,0⟩))),(3,.a (pi b.1)),(4,.a (pi b.2)),(9999,.objs []),(10001,.a (.agg (x.row.map .p)))]) (fun b=>b.2<=x.rs.length) (fun b=>x.rs.length-b.2) (a₀:=(c0,0)) Zs (Yd _) ?_;rintro ⟨c,j⟩ k1;dsimp only at k1;by_cases hb:j<x.rs.length/\c<=1500
 ·obtain ⟨hj,hc⟩:=hb;have r1:=ZHk (f:=Re.row) (l:=x.rs) (j:=j) Zo;have q:=h2.get hj;simp(disch:=omega)[r1,hc];refine tn_g H q.1 fun y=>?_;simp(disch:=omega)[r1];refine tn_g H q.2 fun z=>?_;simp(disch:=omega);exact RdN.mk (_,j+1) rfl hj Zm
 by_cases hj:j<x.rs.length
 ·have hc: ¬c<=1500:=fun h=>hb ⟨hj,h⟩;simp(disch:=omega)[hc];clear hc;refine Lp.rule (fun (b:Int×Nat)=>[(1,.a (.one (.ref ⟨true,10001,0⟩))),(3,.a (pi b.1)),(5,.a (pi b.2)),(9999,.objs []),(10001,.a (.agg (x.row.map .p)))]) (fun b=>b.2<=x.sl.length) (fun b=>x.sl.length-b.2) (a₀:=(c,0)) Zs (Yd _) ?_;clear hb hj k1;rintro ⟨c,j⟩ k1;dsimp only at k1;by_cases hb:j<x.sl.length/\c<=1500
  ·obtain ⟨hj,hc⟩:=hb;have r1:=ZHk (f:=Sl.row) (l:=x.sl) (j:=j) Zo;have q:x.sl[j].t.fw:=h3.get hj;simp(disch:=omega)[r1,hc];refine tn_g H q fun y=>?_;simp(disch:=omega);exact RdN.mk (_,j+1) rfl hj Zm
  by_cases hj:j<x.sl.length
  ·have hc: ¬c<=1500:=fun h=>hb ⟨hj,h⟩;simp(disch:=omega)[hc];clear hc;refine Lp.rule (fun (b:Int×Nat)=>[(1,.a (.one (.ref ⟨true,10001,0⟩))),(3,.a (pi b.1)),(6,.a (pi b.2)),(9999,.objs []),(10001,.a (.agg (x.row.map .p)))]) (fun b=>b.2<=x.b.length) (fun b=>x.b.length-b.2) (a₀:=(c,0)) Zs (Yd _) ?_;clear hb hj k1;rintro ⟨c,j⟩ k1;dsimp only at k1;by_cases hj:j<x.b.length
   ·have r1:=ZHk (f:=blR) (l:=x.b) (j:=j) Zo;have q:=h6.get hj;have q1:=q.1;have b5:(x.b[j].map In.row).length=x.b[j].length:=Yh _;by_cases hc:c<=1500
    ·simp(disch:=omega)[hc];refine Lp.rule (fun (b:Int×Nat)=>[(1,.a (.one (.ref ⟨true,10001,0⟩))),(3,.a (pi b.1)),(6,.a (pi j)),(7,.a (pi b.2)),(9999,.objs []),(10001,.a (.agg (x.row.map .p)))]) (fun b=>b.2<=x.b[j].length) (fun b=>x.b[j].length-b.2) (a₀:=(c,0)) Zs (Yd _) ?_;clear hc;rintro ⟨c,i⟩ m1;dsimp only at m1;by_cases hi:i<x.b[j].length
     ·have r2:=ZHk (f:=In.row) (l:=x.b[j]) (j:=i) Zo;by_cases hc:c<=1500
      ·simp(disch:=omega)[r1,r2,hc];refine ZJ1 H M (q.get hi) fun y=>?_;simp(disch:=omega);exact RdN.mk (_,i+1) rfl hi Zm
      ·simp(disch:=omega)[r1,hc];exact RdN.mk (_,j+1) rfl hj Zm
     ·simp(disch:=omega)[r1];exact RdN.mk (_,j+1) rfl hj Zm
    ·simp(disch:=omega)[hc];exact hQ _
   ·simp(disch:=omega);exact hQ _
  ·simp(disch:=omega);refine Lp.rule (fun (b:Int×Nat)=>[(1,.a (.one (.ref ⟨true,10001,0⟩))),(3,.a (pi b.1)),(6,.a (pi b.2)),(9999,.objs []),(10001,.a (.agg (x.row.map .p)))]) (fun b=>b.2<=x.b.length) (fun b=>x.b.length-b.2) (a₀:=(c,0)) Zs (Yd _) ?_;clear hb hj k1;rintro ⟨c,j⟩ k1;dsimp only at k1;by_cases hj:j<x.b.length
   ·have r1:=ZHk (f:=blR) (l:=x.b) (j:=j) Zo;have q:=h6.get hj;have q1:=q.1;have b5:(x.b[j].map In.row).length=x.b[j].length:=Yh _;by_cases hc:c<=1500
    ·simp(disch:=omega)[hc];refine Lp.rule (fun (b:Int×Nat)=>[(1,.a (.one (.ref ⟨true,10001,0⟩))),(3,.a (pi b.1)),(6,.a (pi j)),(7,.a (pi b.2)),(9999,.objs []),(10001,.a (.agg (x.row.map .p)))]) (fun b=>b.2<=x.b[j].length) (fun b=>x.b[j].length-b.2) (a₀:=(c,0)) Zs (Yd _) ?_;clear hc;rintro ⟨c,i⟩ m1;dsimp only at m1;by_cases hi:i<x.b[j].length
     ·have r2:=ZHk (f:=In.row) (l:=x.b[j]) (j:=i) Zo;by_cases hc:c<=1500
      ·simp(disch:=omega)[r1,r2,hc];refine ZJ1 H M (q.get hi) fun y=>?_;simp(disch:=omega);exact RdN.mk (_,i+1) rfl hi Zm
      ·simp(disch:=omega)[r1,hc];exact RdN.mk (_,j+1) rfl hj Zm
     ·simp(disch:=omega)[r1];exact RdN.mk (_,j+1) rfl hj Zm
    ·simp(disch:=omega)[hc];exact hQ _
   ·simp(disch:=omega);exact hQ _
 ·simp(disch:=omega);refine Lp.rule (fun (b:Int×Nat)=>[(1,.a (.one (.ref ⟨true,10001,0⟩))),(3,.a (pi b.1)),(5,.a (pi b.2)),(9999,.objs []),(10001,.a (.agg (x.row.map .p)))]) (fun b=>b.2<=x.sl.length) (fun b=>x.sl.length-b.2) (a₀:=(c,0)) Zs (Yd _) ?_;clear hb hj k1;rintro ⟨c,j⟩ k1;dsimp only at k1;by_cases hb:j<x.sl.length/\c<=1500
  ·obtain ⟨hj,hc⟩:=hb;have r1:=ZHk (f:=Sl.row) (l:=x.sl) (j:=j) Zo;have q:x.sl[j].t.fw:=h3.get hj;simp(disch:=omega)[r1,hc];refine tn_g H q fun y=>?_;simp(disch:=omega);exact RdN.mk (_,j+1) rfl hj Zm
  by_cases hj:j<x.sl.length
  ·have hc: ¬c<=1500:=fun h=>hb ⟨hj,h⟩;simp(disch:=omega)[hc];clear hc;refine Lp.rule (fun (b:Int×Nat)=>[(1,.a (.one (.ref ⟨true,10001,0⟩))),(3,.a (pi b.1)),(6,.a (pi b.2)),(9999,.objs []),(10001,.a (.agg (x.row.map .p)))]) (fun b=>b.2<=x.b.length) (fun b=>x.b.length-b.2) (a₀:=(c,0)) Zs (Yd _) ?_;clear hb hj k1;rintro ⟨c,j⟩ k1;dsimp only at k1;by_cases hj:j<x.b.length
   ·have r1:=ZHk (f:=blR) (l:=x.b) (j:=j) Zo;have q:=h6.get hj;have q1:=q.1;have b5:(x.b[j].map In.row).length=x.b[j].length:=Yh _;by_cases hc:c<=1500
    ·simp(disch:=omega)[hc];refine Lp.rule (fun (b:Int×Nat)=>[(1,.a (.one (.ref ⟨true,10001,0⟩))),(3,.a (pi b.1)),(6,.a (pi j)),(7,.a (pi b.2)),(9999,.objs []),(10001,.a (.agg (x.row.map .p)))]) (fun b=>b.2<=x.b[j].length) (fun b=>x.b[j].length-b.2) (a₀:=(c,0)) Zs (Yd _) ?_;clear hc;rintro ⟨c,i⟩ m1;dsimp only at m1;by_cases hi:i<x.b[j].length
     ·have r2:=ZHk (f:=In.row) (l:=x.b[j]) (j:=i) Zo;by_cases hc:c<=1500
      ·simp(disch:=omega)[r1,r2,hc];refine ZJ1 H M (q.get hi) fun y=>?_;simp(disch:=omega);exact RdN.mk (_,i+1) rfl hi Zm
      ·simp(disch:=omega)[r1,hc];exact RdN.mk (_,j+1) rfl hj Zm
     ·simp(disch:=omega)[r1];exact RdN.mk (_,j+1) rfl hj Zm
    ·simp(disch:=omega)[hc];exact hQ _
   ·simp(disch:=omega);exact hQ _
  ·simp(disch:=omega);refine Lp.rule (fun (b:Int×Nat)=>[(1,.a (.one (.ref ⟨true,10001,0⟩))),(3,.a (pi b.1)),(6,.a (pi b.2)),(9999,.objs []),(10001,.a (.agg (x.row.map .p)))]) (fun b=>b.2<=x.b.length) (fun b=>x.b.length-b.2) (a₀:=(c,0)) Zs (Yd _) ?_;clear hb hj k1;rintro ⟨c,j⟩ k1;dsimp only at k1;by_cases hj:j<x.b.length
   ·have r1:=ZHk (f:=blR) (l:=x.b) (j:=j) Zo;have q:=h6.get hj;have q1:=q.1;have b5:(x.b[j].map In.row).length=x.b[j].length:=Yh _;by_cases hc:c<=1500
    ·simp(disch:=omega)[hc];refine Lp.rule (fun (b:Int×Nat)=>[(1,.a (.one (.ref ⟨true,10001,0⟩))),(3,.a (pi b.1)),(6,.a (pi j)),(7,.a (pi b.2)),(9999,.objs []),(10001,.a (.agg (x.row.map .p)))]) (fun b=>b.2<=x.b[j].length) (fun b=>x.b[j].length-b.2) (a₀:=(c,0)) Zs (Yd _) ?_;clear hc;rintro ⟨c,i⟩ m1;dsimp only at m1;by_cases hi:i<x.b[j].length
     ·have r2:=ZHk (f:=In.row) (l:=x.b[j]) (j:=i) Zo;by_cases hc:c<=1500
      ·simp(disch:=omega)[r1,r2,hc];refine ZJ1 H M (q.get hi) fun y=>?_;simp(disch:=omega);exact RdN.mk (_,i+1) rfl hi Zm
      ·simp(disch:=omega)[r1,hc];exact RdN.mk (_,j+1) rfl hj Zm
     ·simp(disch:=omega)[r1];exact RdN.mk (_,j+1) rfl hj Zm
    ·simp(disch:=omega)[hc];exact hQ _
   ·simp(disch:=omega);exact hQ _
abbrev noPc:List C:=[.p (.sl 17 []),.p (.sl 3 []),.p (.sl 9 []),.p (.sl 14 [])]
def ZJW (H:Has S) (M:HM S) {m:Mo} {ok:Bool} {src:List Nat} (HT: ∀Q:List A->List (List C)->Prop,Q [.agg m.cs',pb ok] []->Gives S Zgf [ps src,pi 4000] [] Q) {l:List Cd} (hl:Ok Cd.ok l)
  (hQ0:Q [.agg noPc,pb false] []) (hQ1:ok=true->Q [.agg (m.pc (l.map Cd.row)),pb true] []):Gives S ZIB [ps src,.one (.p (.sl 14 (l.map Cd.row)))] [] Q:=by
 have l1:=hl.1;have b1:(l.map Cd.row).length=l.length:=Yh _;refine .code M.zmProgram rfl ?_;simp(disch:=omega)[ZI3];by_cases h0:122<l.length
 ·simp(disch:=omega);exact hQ0
 simp(disch:=omega);refine Lp.rule (fun (b:Int×Nat)=>[(0,.a (ps src)),(1,.a (.one (.p (.sl 14 (l.map Cd.row))))),(4,.a (.one (.ref ⟨true,10004,0⟩))),(6,.a (pi b.1)),(7,.a (pi b.2)),(9999,.objs []),(10004,.a (.agg [.tip 17 [],.tip 3 [],.tip 9 [],.tip 14 []]))]) (fun b=>b.2<=l.length) (fun b=>l.length-b.2) (a₀:=(0,0)) Zs (Yd _) ?_;rintro ⟨c,j⟩ k1;dsimp only at k1;by_cases hb:j<l.length/\c<=1500
 ·obtain ⟨hj,hc⟩:=hb;have r1:=ZHk (f:=Cd.row) (l:=l) (j:=j) Zo;simp(disch:=omega)[r1,hc];refine ZOe H M (hl.get hj) fun y=>?_;simp(disch:=omega);exact RdN.mk (_,j+1) rfl hj Zm
 by_cases hj:j<l.length
 ·have hc: ¬c<=1500:=fun h=>hb ⟨hj,h⟩;simp(disch:=omega)[hc];refine HT _ ?_;simp(disch:=omega)[hc];exact hQ0
 simp(disch:=omega);refine HT _ ?_;by_cases hc:c<=1500
 ·cases ok
  ·simp(disch:=omega)[hc];exact hQ0
  ·simp(disch:=omega)[hc];refine ZLn M ?_;simp(disch:=omega);exact hQ1 rfl
 ·simp(disch:=omega)[hc];exact hQ0
def ZJf (H:Has S) (M:HM S) (HA: ∀Q:List A->List (List C)->Prop,Q [pb true] []->Gives S ZHZ [] [] Q) {m:Mo} {ok:Bool} (hm:m.ok) {src:List Nat}
  (HT: ∀Q:List A->List (List C)->Prop,Q [.agg m.cs',pb ok] []->Gives S Zgf [ps src,pi 4000] [] Q) {a b:List Cd} (ha:Ok Cd.ok a) (hb:Ok Cd.ok b) (hQ:Q [pb true] []):
  Gives S ZHM [ps src,.one (.p (.sl 14 (a.map Cd.row))),.one (.p (.sl 14 (b.map Cd.row)))] [] Q:=by
 have aw: ∀{Q:List A->List (List C)->Prop},Q [pb true] []->Gives S ZHZ [] [] Q:=fun h=>HA _ h;refine .code M.law12MiddleSame rfl ?_;simp(disch:=omega)[ZH3];refine ZJW H M HT ha ?_ fun h1=>?_
 ·simp(disch:=omega);refine ZJW H M HT hb ?_ fun h2=>?_
  all_goals
   simp(disch:=omega);refine aw ?_;simp(disch:=omega);exact hQ
 ·simp(disch:=omega);refine ZJW H M HT hb ?_ fun h2=>?_
  ·simp(disch:=omega);refine aw ?_;simp(disch:=omega);exact hQ
  ·simp(disch:=omega);refine ZJE M hm ha hb ?_;simp(disch:=omega);refine ZNi H M hm ha hb ?_;simp(disch:=omega);refine ZJE M hm ha ha ?_;rw [ZDz rfl];simp(disch:=omega);refine aw ?_;simp(disch:=omega);exact hQ
end Go.Am.Fe
end
