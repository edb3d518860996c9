/- Part. -/
import Derived.Test.YtcdjoaepciegnaaGreatDoorUau
import Derived.Test.YtcdjoaepciegnaaGreatDoorChecked
set_option maxRecDepth 999999
set_option maxHeartbeats 0
set_option linter.all false
section
namespace Go.Am.Fe
open Go.Proofs
set_option maxRecDepth 1000000
def ZIf:Tryz.prog.cellsOf 3=1:=by kernel_rfl
def ZJl:Tryz.prog.cellsOf 9=1:=by kernel_rfl
def kcTy:Tryz.prog.cellsOf 40=4:=by kernel_rfl
def ZKR:Tryz.prog.cellsOf 38=1:=by kernel_rfl
def ZJW:Tryz.prog.cellsOf 41=1:=by kernel_rfl
def kcRe:Tryz.prog.cellsOf 177=10:=by kernel_rfl
def kcSl:Tryz.prog.cellsOf 80=5:=by kernel_rfl
def kcOp:Tryz.prog.cellsOf 53=3:=by kernel_rfl
def ZK5:Tryz.prog.cellsOf 37=1:=by kernel_rfl
def kcIn:Tryz.prog.cellsOf 43=14:=by kernel_rfl
def ZKA:Tryz.prog.cellsOf 81=1:=by kernel_rfl
def ZIi:Tryz.prog.underlying 3=some (.int .i64):=by kernel_rfl
def ZKq:Tryz.prog.underlying 9=some (.string):=by kernel_rfl
def ZJX:Tryz.prog.underlying 41=some (.slice 9):=by kernel_rfl
def ZKQ:Tryz.prog.underlying 38=some (.slice 40):=by kernel_rfl
def ZK0:Tryz.prog.underlying 37=some (.slice 53):=by kernel_rfl
theorem ZKT (n:Nat): ∀xs,Shp Tryz.prog n 40 xs-> ∃t:Ty,t.row=xs/\t.fw:=by
 induction n using Nat.strongRecOn with
 | _ n ih=>
 intro xs h
 obtain ⟨m,hm,hl,hf⟩:=ZE4 h (l:=[(0,3),(1,9),(2,3),(3,38)]) (by kernel_rfl)
 rw [kcTy] at hl
 match xs,hl with
 | [x0,x1,x2,x3],_=>
   have h0:Shp Tryz.prog m 3 [x0]:=by simpa [ZIf] using hf (0,3) Zs
   have h1:Shp Tryz.prog m 9 [x1]:=by simpa [ZJl] using hf (1,9) Zs
   have h2:Shp Tryz.prog m 3 [x2]:=by simpa [ZIf] using hf (2,3) Zs
   have h3:Shp Tryz.prog m 38 [x3]:=by simpa [ZKR] using hf (3,38) Zs
   obtain ⟨k,rfl⟩:=ZEm h0 ZIi
   obtain ⟨s,rfl,_⟩:=ZIU h1 ZKq
   obtain ⟨n,rfl⟩:=ZEm h2 ZIi
   obtain ⟨a,rfl,q3⟩:=ZGF (row:=Ty.row) (p:=Ty.fw) h3 ZKQ fun m' hm' r hr=>ih m' Zo r hr
   exact ⟨.mk k s n a,by simp [Ty.row,Ty.encs_rows,Ty.k,Ty.s,Ty.n,Ty.a,ZJl,kcTy,kcRe,kcSl,kcOp,kcIn,ZKA],⟨q3.1,Ty.mem_fws q3.2⟩⟩
theorem ZK1 {n:Nat} {xs:List P} (h:Shp Tryz.prog n 53 xs): ∃t:Op,t.row=xs/\t.ok:=by
 obtain ⟨m,hm,hl,hf⟩:=ZE4 h (l:=[(0,3),(1,3),(2,41)]) (by kernel_rfl)
 rw [kcOp] at hl
 match xs,hl with
 | [x0,x1,x2],_=>
   have h0:Shp Tryz.prog m 3 [x0]:=by simpa [ZIf] using hf (0,3) Zs
   have h1:Shp Tryz.prog m 3 [x1]:=by simpa [ZIf] using hf (1,3) Zs
   have h2:Shp Tryz.prog m 41 [x2]:=by simpa [ZJW] using hf (2,41) Zs
   obtain ⟨k,rfl⟩:=ZEm h0 ZIi
   obtain ⟨n,rfl⟩:=ZEm h1 ZIi
   obtain ⟨p,rfl,q2⟩:=ZHA h2 ZJX ZKq ZJl
   exact ⟨⟨k,n,p⟩,by simp [Op.row,Ty.encs_rows,ZJl,kcTy,kcRe,kcSl,kcOp,kcIn,ZKA],q2⟩
theorem ZKY {n:Nat} {xs:List P} (h:Shp Tryz.prog n 43 xs): ∃t:In,t.row=xs/\t.ok:=by
 obtain ⟨m,hm,hl,hf⟩:=ZE4 h (l:=[(0,3),(1,3),(2,37),(3,9),(4,3),(5,40),(9,38),(10,41),(11,3),(12,3),(13,3)]) (by kernel_rfl)
 rw [kcIn] at hl
 match xs,hl with
 | [x0,x1,x2,x3,x4,x5,x6,x7,x8,x9,x10,x11,x12,x13],_=>
   have h0:Shp Tryz.prog m 3 [x0]:=by simpa [ZIf] using hf (0,3) Zs
   have h1:Shp Tryz.prog m 3 [x1]:=by simpa [ZIf] using hf (1,3) Zs
   have h2:Shp Tryz.prog m 37 [x2]:=by simpa [ZK5] using hf (2,37) Zs
   have h3:Shp Tryz.prog m 9 [x3]:=by simpa [ZJl] using hf (3,9) Zs
   have h4:Shp Tryz.prog m 3 [x4]:=by simpa [ZIf] using hf (4,3) Zs
   have h5:Shp Tryz.prog m 40 [x5,x6,x7,x8]:=by simpa [kcTy] using hf (5,40) Zs
   have h6:Shp Tryz.prog m 38 [x9]:=by simpa [ZKR] using hf (9,38) Zs
   have h7:Shp Tryz.prog m 41 [x10]:=by simpa [ZJW] using hf (10,41) Zs
   have h8:Shp Tryz.prog m 3 [x11]:=by simpa [ZIf] using hf (11,3) Zs
   have h9:Shp Tryz.prog m 3 [x12]:=by simpa [ZIf] using hf (12,3) Zs
   have h10:Shp Tryz.prog m 3 [x13]:=by simpa [ZIf] using hf (13,3) Zs
   obtain ⟨o,rfl⟩:=ZEm h0 ZIi
   obtain ⟨d,rfl⟩:=ZEm h1 ZIi
   obtain ⟨a,rfl,q2⟩:=ZGF (row:=Op.row) (p:=Op.ok) h2 ZK0 fun m' hm' r hr=>ZK1 hr
   obtain ⟨s,rfl,_⟩:=ZIU h3 ZKq
   obtain ⟨n,rfl⟩:=ZEm h4 ZIi
   obtain ⟨t,r5,q5⟩:=ZKT _ _ h5
   obtain ⟨ts,rfl,q6⟩:=ZGF (row:=Ty.row) (p:=Ty.fw) h6 ZKQ fun m' hm' r hr=>ZKT _ _ hr
   obtain ⟨p,rfl,q7⟩:=ZHA h7 ZJX ZKq ZJl
   obtain ⟨to,rfl⟩:=ZEm h8 ZIi
   obtain ⟨er,rfl⟩:=ZEm h9 ZIi
   obtain ⟨e,rfl⟩:=ZEm h10 ZIi
   simp only [Ty.row,Yf,and_true] at r5
   obtain ⟨rfl,rfl,rfl,rfl⟩:=r5
   exact ⟨⟨o,d,a,s,n,t,ts,p,to,er,e⟩,by simp [In.row,Ty.encs_rows,ZJl,kcTy,kcRe,kcSl,kcOp,kcIn,ZKA],⟨q2,q5,q6,q7⟩⟩
end Go.Am.Fe
end
