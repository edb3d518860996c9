/- Part. -/
import Derived.Test.YtcdjoaepciegnaaGreatDoorZbe
import Derived.Test.YtcdjoaepciegnaaGreatDoorChecked
set_option maxRecDepth 999999
set_option maxHeartbeats 0
set_option linter.all false
section
namespace Go.Am.Fe
open Go.Proofs
set_option maxRecDepth 1000000
def ZK3:Tryz.prog.cellsOf 3=1:=by kernel_rfl
def ZLj:Tryz.prog.cellsOf 9=1:=by kernel_rfl
def kcTy:Tryz.prog.cellsOf 40=4:=by kernel_rfl
def ZOr:Tryz.prog.cellsOf 38=1:=by kernel_rfl
def ZMI:Tryz.prog.cellsOf 41=1:=by kernel_rfl
def kcRe:Tryz.prog.cellsOf 177=10:=by kernel_rfl
def ZOU:Tryz.prog.cellsOf 56=1:=by kernel_rfl
def kcSl:Tryz.prog.cellsOf 80=5:=by kernel_rfl
def ZOT:Tryz.prog.cellsOf 57=1:=by kernel_rfl
def kcOp:Tryz.prog.cellsOf 53=3:=by kernel_rfl
def ZOR:Tryz.prog.cellsOf 37=1:=by kernel_rfl
def kcIn:Tryz.prog.cellsOf 43=14:=by kernel_rfl
def ZNn:Tryz.prog.cellsOf 81=1:=by kernel_rfl
def ZN5:Tryz.prog.cellsOf 58=1:=by kernel_rfl
def kcCd:Tryz.prog.cellsOf 60=14:=by kernel_rfl
def ZK4:Tryz.prog.underlying 3=some (.int .i64):=by kernel_rfl
def ZMJ:Tryz.prog.underlying 9=some (.string):=by kernel_rfl
def ZME:Tryz.prog.underlying 41=some (.slice 9):=by kernel_rfl
def ZOu:Tryz.prog.underlying 38=some (.slice 40):=by kernel_rfl
def ZOJ:Tryz.prog.underlying 56=some (.slice 177):=by kernel_rfl
def ZOy:Tryz.prog.underlying 57=some (.slice 80):=by kernel_rfl
def ZOI:Tryz.prog.underlying 37=some (.slice 53):=by kernel_rfl
def ZOq:Tryz.prog.underlying 81=some (.slice 43):=by kernel_rfl
def ZOd:Tryz.prog.underlying 58=some (.slice 81):=by kernel_rfl
def ZOB:Tryz.prog.underlying 31=some (.slice 60):=by kernel_rfl
theorem ZMN (n:Nat): ∀xs,Shp Tryz.prog n 40 xs-> ∃t:Ty,t.row=xs/\t.fw:=by
 induction n using Nat.strongRecOn with
 | _ n ih=>
 intro xs h;obtain ⟨m,hm,hl,hf⟩:=ZIe h (l:=[(0,3),(1,9),(2,3),(3,38)]) (by kernel_rfl);rw [kcTy] at hl
 match xs,hl with
 | [x0,x1,x2,x3],_=>
   have h0:Shp Tryz.prog m 3 [x0]:=by simpa [ZK3] using hf (0,3) Zs
   have h1:Shp Tryz.prog m 9 [x1]:=by simpa [ZLj] using hf (1,9) Zs
   have h2:Shp Tryz.prog m 3 [x2]:=by simpa [ZK3] using hf (2,3) Zs
   have h3:Shp Tryz.prog m 38 [x3]:=by simpa [ZOr] using hf (3,38) Zs
   obtain ⟨k,rfl⟩:=ZIf h0 ZK4;obtain ⟨s,rfl,_⟩:=ZKZ h1 ZMJ;obtain ⟨n,rfl⟩:=ZIf h2 ZK4;obtain ⟨a,rfl,q3⟩:=ZIo (row:=Ty.row) (p:=Ty.fw) h3 ZOu fun m' hm' r hr=>ih m' Zo r hr;exact ⟨.mk k s n a,by simp [Ty.row,Ty.encs_rows,Ty.k,Ty.s,Ty.n,Ty.a,ZLj,kcTy,kcRe,kcSl,kcOp,kcIn,ZNn],⟨q3.1,Ty.mem_fws q3.2⟩⟩
theorem ZOH {n:Nat} {xs:List P} (h:Shp Tryz.prog n 177 xs): ∃t:Re,t.row=xs/\t.ok:=by
 obtain ⟨m,hm,hl,hf⟩:=ZIe h (l:=[(0,3),(1,40),(5,9),(6,40)]) (by kernel_rfl);rw [kcRe] at hl
 match xs,hl with
 | [x0,x1,x2,x3,x4,x5,x6,x7,x8,x9],_=>
   have h0:Shp Tryz.prog m 3 [x0]:=by simpa [ZK3] using hf (0,3) Zs
   have h1:Shp Tryz.prog m 40 [x1,x2,x3,x4]:=by simpa [kcTy] using hf (1,40) Zs
   have h2:Shp Tryz.prog m 9 [x5]:=by simpa [ZLj] using hf (5,9) Zs
   have h3:Shp Tryz.prog m 40 [x6,x7,x8,x9]:=by simpa [kcTy] using hf (6,40) Zs
   obtain ⟨k,rfl⟩:=ZIf h0 ZK4;obtain ⟨t,r1,q1⟩:=ZMN _ _ h1;obtain ⟨p,rfl,_⟩:=ZKZ h2 ZMJ;obtain ⟨o,r3,q3⟩:=ZMN _ _ h3;simp only [Ty.row,Yf,and_true] at r1;obtain ⟨rfl,rfl,rfl,rfl⟩:=r1;simp only [Ty.row,Yf,and_true] at r3;obtain ⟨rfl,rfl,rfl,rfl⟩:=r3;exact ⟨⟨k,t,p,o⟩,by simp [Re.row,Ty.encs_rows,ZLj,kcTy,kcRe,kcSl,kcOp,kcIn,ZNn],⟨q1,q3⟩⟩
theorem ZOK {n:Nat} {xs:List P} (h:Shp Tryz.prog n 80 xs): ∃t:Sl,t.row=xs/\t.ok:=by
 obtain ⟨m,hm,hl,hf⟩:=ZIe h (l:=[(0,40),(4,3)]) (by kernel_rfl);rw [kcSl] at hl
 match xs,hl with
 | [x0,x1,x2,x3,x4],_=>
   have h0:Shp Tryz.prog m 40 [x0,x1,x2,x3]:=by simpa [kcTy] using hf (0,40) Zs
   have h1:Shp Tryz.prog m 3 [x4]:=by simpa [ZK3] using hf (4,3) Zs
   obtain ⟨t,r0,q0⟩:=ZMN _ _ h0;obtain ⟨k,rfl⟩:=ZIf h1 ZK4;simp only [Ty.row,Yf,and_true] at r0;obtain ⟨rfl,rfl,rfl,rfl⟩:=r0;exact ⟨⟨t,k⟩,by simp [Sl.row,Ty.encs_rows,ZLj,kcTy,kcRe,kcSl,kcOp,kcIn,ZNn],q0⟩
theorem ZOS {n:Nat} {xs:List P} (h:Shp Tryz.prog n 53 xs): ∃t:Op,t.row=xs/\t.ok:=by
 obtain ⟨m,hm,hl,hf⟩:=ZIe h (l:=[(0,3),(1,3),(2,41)]) (by kernel_rfl);rw [kcOp] at hl
 match xs,hl with
 | [x0,x1,x2],_=>
   have h0:Shp Tryz.prog m 3 [x0]:=by simpa [ZK3] using hf (0,3) Zs
   have h1:Shp Tryz.prog m 3 [x1]:=by simpa [ZK3] using hf (1,3) Zs
   have h2:Shp Tryz.prog m 41 [x2]:=by simpa [ZMI] using hf (2,41) Zs
   obtain ⟨k,rfl⟩:=ZIf h0 ZK4;obtain ⟨n,rfl⟩:=ZIf h1 ZK4;obtain ⟨p,rfl,q2⟩:=ZKB h2 ZME ZMJ ZLj;exact ⟨⟨k,n,p⟩,by simp [Op.row,Ty.encs_rows,ZLj,kcTy,kcRe,kcSl,kcOp,kcIn,ZNn],q2⟩
theorem ZOQ {n:Nat} {xs:List P} (h:Shp Tryz.prog n 43 xs): ∃t:In,t.row=xs/\t.ok:=by
 obtain ⟨m,hm,hl,hf⟩:=ZIe h (l:=[(0,3),(1,3),(2,37),(3,9),(4,3),(5,40),(9,38),(10,41),(11,3),(12,3),(13,3)]) (by kernel_rfl);rw [kcIn] at hl
 match xs,hl with
 | [x0,x1,x2,x3,x4,x5,x6,x7,x8,x9,x10,x11,x12,x13],_=>
   have h0:Shp Tryz.prog m 3 [x0]:=by simpa [ZK3] using hf (0,3) Zs
   have h1:Shp Tryz.prog m 3 [x1]:=by simpa [ZK3] using hf (1,3) Zs
   have h2:Shp Tryz.prog m 37 [x2]:=by simpa [ZOR] using hf (2,37) Zs
   have h3:Shp Tryz.prog m 9 [x3]:=by simpa [ZLj] using hf (3,9) Zs
   have h4:Shp Tryz.prog m 3 [x4]:=by simpa [ZK3] using hf (4,3) Zs
   have h5:Shp Tryz.prog m 40 [x5,x6,x7,x8]:=by simpa [kcTy] using hf (5,40) Zs
   have h6:Shp Tryz.prog m 38 [x9]:=by simpa [ZOr] using hf (9,38) Zs
   have h7:Shp Tryz.prog m 41 [x10]:=by simpa [ZMI] using hf (10,41) Zs
   have h8:Shp Tryz.prog m 3 [x11]:=by simpa [ZK3] using hf (11,3) Zs
   have h9:Shp Tryz.prog m 3 [x12]:=by simpa [ZK3] using hf (12,3) Zs
   have h10:Shp Tryz.prog m 3 [x13]:=by simpa [ZK3] using hf (13,3) Zs
   obtain ⟨o,rfl⟩:=ZIf h0 ZK4;obtain ⟨d,rfl⟩:=ZIf h1 ZK4;obtain ⟨a,rfl,q2⟩:=ZIo (row:=Op.row) (p:=Op.ok) h2 ZOI fun m' hm' r hr=>ZOS hr;obtain ⟨s,rfl,_⟩:=ZKZ h3 ZMJ;obtain ⟨n,rfl⟩:=ZIf h4 ZK4;obtain ⟨t,r5,q5⟩:=ZMN _ _ h5;obtain ⟨ts,rfl,q6⟩:=ZIo (row:=Ty.row) (p:=Ty.fw) h6 ZOu fun m' hm' r hr=>ZMN _ _ hr;obtain ⟨p,rfl,q7⟩:=ZKB h7 ZME ZMJ ZLj;obtain ⟨to,rfl⟩:=ZIf h8 ZK4;obtain ⟨er,rfl⟩:=ZIf h9 ZK4;obtain ⟨e,rfl⟩:=ZIf h10 ZK4;simp only [Ty.row,Yf,and_true] at r5;obtain ⟨rfl,rfl,rfl,rfl⟩:=r5;exact ⟨⟨o,d,a,s,n,t,ts,p,to,er,e⟩,by simp [In.row,Ty.encs_rows,ZLj,kcTy,kcRe,kcSl,kcOp,kcIn,ZNn],⟨q2,q5,q6,q7⟩⟩
def ZOm {n:Nat} {xs:List P} (h:Shp Tryz.prog n 81 xs): ∃l:List In,[P.sl 14 (l.map In.row)]=xs/\Ok In.ok l:=by
 have h1: ∃a,xs=[a]:=by
  cases n with
  | zero=>exact h.elim
  | succ n=>simp only [Shp,ZOq] at h;obtain ⟨_,e,_⟩:=h;exact ⟨_,e⟩
 obtain ⟨a,rfl⟩:=h1;obtain ⟨L,rfl,q⟩:=ZIo (row:=In.row) (p:=In.ok) h ZOq fun m' hm' r hr=>ZOQ hr;exact ⟨L,by rw [kcIn],q⟩
theorem ZOv {n:Nat} {xs:List P} (h:Shp Tryz.prog n 60 xs): ∃t:Cd,t.row=xs/\t.ok:=by
 obtain ⟨m,hm,hl,hf⟩:=ZIe h (l:=[(0,9),(1,41),(2,56),(3,3),(4,57),(5,40),(9,40),(13,58)]) (by kernel_rfl);rw [kcCd] at hl
 match xs,hl with
 | [x0,x1,x2,x3,x4,x5,x6,x7,x8,x9,x10,x11,x12,x13],_=>
   have h0:Shp Tryz.prog m 9 [x0]:=by simpa [ZLj] using hf (0,9) Zs
   have h1:Shp Tryz.prog m 41 [x1]:=by simpa [ZMI] using hf (1,41) Zs
   have h2:Shp Tryz.prog m 56 [x2]:=by simpa [ZOU] using hf (2,56) Zs
   have h3:Shp Tryz.prog m 3 [x3]:=by simpa [ZK3] using hf (3,3) Zs
   have h4:Shp Tryz.prog m 57 [x4]:=by simpa [ZOT] using hf (4,57) Zs
   have h5:Shp Tryz.prog m 40 [x5,x6,x7,x8]:=by simpa [kcTy] using hf (5,40) Zs
   have h6:Shp Tryz.prog m 40 [x9,x10,x11,x12]:=by simpa [kcTy] using hf (9,40) Zs
   have h7:Shp Tryz.prog m 58 [x13]:=by simpa [ZN5] using hf (13,58) Zs
   obtain ⟨s,rfl,_⟩:=ZKZ h0 ZMJ;obtain ⟨gs,rfl,q1⟩:=ZKB h1 ZME ZMJ ZLj;obtain ⟨rs,rfl,q2⟩:=ZIo (row:=Re.row) (p:=Re.ok) h2 ZOJ fun m' hm' r hr=>ZOH hr;obtain ⟨k,rfl⟩:=ZIf h3 ZK4;obtain ⟨sl,rfl,q4⟩:=ZIo (row:=Sl.row) (p:=Sl.ok) h4 ZOy fun m' hm' r hr=>ZOK hr;obtain ⟨r,r5,q5⟩:=ZMN _ _ h5;obtain ⟨e,r6,q6⟩:=ZMN _ _ h6;obtain ⟨b,rfl,q7⟩:=ZIo (row:=fun l:List In=>[P.sl 14 (l.map In.row)]) (p:=Ok In.ok) h7 ZOd fun m' hm' r hr=>ZOm hr;simp only [Ty.row,Yf,and_true] at r5;obtain ⟨rfl,rfl,rfl,rfl⟩:=r5;simp only [Ty.row,Yf,and_true] at r6;obtain ⟨rfl,rfl,rfl,rfl⟩:=r6;exact ⟨⟨s,gs,rs,k,sl,r,e,b⟩,by simp [Cd.row,Ty.encs_rows,ZLj,kcTy,kcRe,kcSl,kcOp,kcIn,ZNn],⟨q1,q2,q4,q5,q6,q7⟩⟩
end Go.Am.Fe
end
