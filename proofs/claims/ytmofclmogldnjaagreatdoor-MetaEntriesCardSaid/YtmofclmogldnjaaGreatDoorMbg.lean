/- Part. -/
import Derived.Test.YtmofclmogldnjaaGreatDoorMbd
import Derived.Test.YtmofclmogldnjaaGreatDoorMau
import Derived.Test.YtmofclmogldnjaaGreatDoorProg
set_option maxRecDepth 999999
set_option maxHeartbeats 0
set_option linter.all false
section
namespace Go.Am.Fe
open Go.Proofs
set_option maxRecDepth 1000000
def ZOh:Tryz.prog.cellsOf 3=1:=by kernel_rfl
def ZNZ:Tryz.prog.cellsOf 9=1:=by kernel_rfl
def kcTy:Tryz.prog.cellsOf 24=4:=by kernel_rfl
def ZOk:Tryz.prog.cellsOf 22=1:=by kernel_rfl
def ZOd:Tryz.prog.cellsOf 29=1:=by kernel_rfl
def ZNW:Tryz.prog.cellsOf 28=1:=by kernel_rfl
def kcTa:Tryz.prog.cellsOf 31=10:=by kernel_rfl
def ZOl:Tryz.prog.underlying 3=some (.int .i64):=by kernel_rfl
def ZN7:Tryz.prog.underlying 9=some (.string):=by kernel_rfl
def ZN0:Tryz.prog.underlying 28=some (.slice 9):=by kernel_rfl
def ZN4:Tryz.prog.underlying 22=some (.slice 24):=by kernel_rfl
def ZN8:Tryz.prog.underlying 29=some (.slice 22):=by kernel_rfl
theorem ZOr (n:Nat): ∀xs,Shp Tryz.prog n 24 xs-> ∃t:Ty,t.row=xs/\t.fv:=by
 induction n using Nat.strongRecOn with
 | _ n ih=>
 intro xs h;obtain ⟨m,hm,hl,hf⟩:=ZJV h (l:=[(0,3),(1,9),(2,3),(3,22)]) (by kernel_rfl);rw [kcTy] at hl
 match xs,hl with
 | [x0,x1,x2,x3],_=>
   have h0:Shp Tryz.prog m 3 [x0]:=by simpa [ZOh] using hf (0,3) Zs
   have h1:Shp Tryz.prog m 9 [x1]:=by simpa [ZNZ] using hf (1,9) Zs
   have h2:Shp Tryz.prog m 3 [x2]:=by simpa [ZOh] using hf (2,3) Zs
   have h3:Shp Tryz.prog m 22 [x3]:=by simpa [ZOk] using hf (3,22) Zs
   obtain ⟨k,rfl⟩:=ZMi h0 ZOl;obtain ⟨s,rfl,_⟩:=ZMj h1 ZN7;obtain ⟨n,rfl⟩:=ZMi h2 ZOl;obtain ⟨a,rfl,q3⟩:=ZJE (row:=Ty.row) (p:=Ty.fv) h3 ZN4 fun m' hm' r hr=>ih m' Zo r hr;exact ⟨.mk k s n a,by simp [Ty.row,Ty.encs_rows,Ty.k,Ty.s,Ty.n,Ty.a,kcTy],⟨q3.1,Ty.mem_fvs q3.2⟩⟩
def ZOa {n:Nat} {t e:TypeId} {xs:List P} (h:Shp Tryz.prog n t xs) (hu:Tryz.prog.underlying t=some (.slice e)): ∃a,xs=[a]:=by
 cases n with
 | zero=>exact h.elim
 | succ n=>simp only [Shp,hu] at h;obtain ⟨_,e,_⟩:=h;exact ⟨_,e⟩
def ZN5 {n:Nat} {xs:List P} (h:Shp Tryz.prog n 22 xs): ∃l:List Ty,tyr l=xs/\l.length<=9223372036854775807/\Ty.fvs l:=by
 obtain ⟨a,rfl⟩:=ZOa h ZN4;obtain ⟨L,rfl,q1,q2⟩:=ZJE (row:=Ty.row) (p:=Ty.fv) h ZN4 fun m' hm' r hr=>ZOr _ _ hr;exact ⟨L,by simp [tyr,Ty.encs_rows,kcTy],q1,Ty.mem_fvs q2⟩
theorem ZOn {n:Nat} {xs:List P} (h:Shp Tryz.prog n 31 xs): ∃x:Ta,x.row=xs/\x.ok:=by
 obtain ⟨m,hm,hl,hf⟩:=ZJV h (l:=[(0,24),(4,9),(5,27),(8,28),(9,29)]) (by kernel_rfl);rw [kcTa] at hl
 match xs,hl with
 | [x0,x1,x2,x3,x4,x5,x6,x7,x8,x9],_=>
   have h1:Shp Tryz.prog m 9 [x4]:=by simpa [ZNZ] using hf (4,9) Zs
   have h2:Shp Tryz.prog m 28 [x8]:=by simpa [ZNW] using hf (8,28) Zs
   have h3:Shp Tryz.prog m 29 [x9]:=by simpa [ZOd] using hf (9,29) Zs
   obtain ⟨s,rfl,_⟩:=ZMj h1 ZN7;obtain ⟨fs,rfl,q1⟩:=ZMW h2 ZN0 ZN7 ZNZ;obtain ⟨ts,rfl,q2,q3⟩:=ZJE (row:=tyr) (p:=fun l=>l.length<=9223372036854775807/\Ty.fvs l) h3 ZN8 fun m' hm' r hr=>ZN5 hr;exact ⟨⟨x0,x1,x2,x3,s,x5,x6,x7,fs,ts⟩,by simp [ZOk],q1,q2,q3⟩
end Go.Am.Fe
end
