/- Part. -/
import Derived.Test.YtmofclmogldnjaaGreatDoorCbd
import Derived.Test.YtmofclmogldnjaaGreatDoorCau
import Derived.Test.YtmofclmogldnjaaGreatDoorProg
set_option maxRecDepth 999999
set_option maxHeartbeats 0
set_option linter.all false
section
namespace Go.Am.Fe
open Go.Proofs
set_option maxRecDepth 1000000
def ZN4:Tryz.prog.cellsOf 3=1:=by kernel_rfl
def ZN9:Tryz.prog.cellsOf 9=1:=by kernel_rfl
def kcTy:Tryz.prog.cellsOf 24=4:=by kernel_rfl
def ZOk:Tryz.prog.cellsOf 22=1:=by kernel_rfl
def ZN6:Tryz.prog.underlying 3=some (.int .i64):=by kernel_rfl
def ZNT:Tryz.prog.underlying 9=some (.string):=by kernel_rfl
def ZOe:Tryz.prog.underlying 22=some (.slice 24):=by kernel_rfl
theorem ZOx (n:Nat): ∀xs,Shp Tryz.prog n 24 xs-> ∃t:Ty,t.row=xs/\t.fv:=by
 induction n using Nat.strongRecOn with
 | _ n ih=>
 intro xs h;obtain ⟨m,hm,hl,hf⟩:=ZIC h (l:=[(0,3),(1,9),(2,3),(3,22)]) (by kernel_rfl);rw [kcTy] at hl
 match xs,hl with
 | [x0,x1,x2,x3],_=>
   have h0:Shp Tryz.prog m 3 [x0]:=by simpa [ZN4] using hf (0,3) Zs
   have h1:Shp Tryz.prog m 9 [x1]:=by simpa [ZN9] using hf (1,9) Zs
   have h2:Shp Tryz.prog m 3 [x2]:=by simpa [ZN4] using hf (2,3) Zs
   have h3:Shp Tryz.prog m 22 [x3]:=by simpa [ZOk] using hf (3,22) Zs
   obtain ⟨k,rfl⟩:=ZLa h0 ZN6;obtain ⟨s,rfl,_⟩:=ZK1 h1 ZNT;obtain ⟨n,rfl⟩:=ZLa h2 ZN6;obtain ⟨a,rfl,q3⟩:=ZJ4 (row:=Ty.row) (p:=Ty.fv) h3 ZOe fun m' hm' r hr=>ih m' Zo r hr;exact ⟨.mk k s n a,by simp [Ty.row,Ty.encs_rows,Ty.k,Ty.s,Ty.n,Ty.a,kcTy],⟨q3.1,Ty.mem_fvs q3.2⟩⟩
def ZNU {n:Nat} {t e:TypeId} {xs:List P} (h:Shp Tryz.prog n t xs) (hu:Tryz.prog.underlying t=some (.slice e)): ∃a,xs=[a]:=by
 cases n with
 | zero=>exact h.elim
 | succ n=>simp only [Shp,hu] at h;obtain ⟨_,e,_⟩:=h;exact ⟨_,e⟩
def ZOc {n:Nat} {xs:List P} (h:Shp Tryz.prog n 22 xs): ∃l:List Ty,tyr l=xs/\l.length<=9223372036854775807/\Ty.fvs l:=by
 obtain ⟨a,rfl⟩:=ZNU h ZOe;obtain ⟨L,rfl,q1,q2⟩:=ZJ4 (row:=Ty.row) (p:=Ty.fv) h ZOe fun m' hm' r hr=>ZOx _ _ hr;exact ⟨L,by simp [tyr,Ty.encs_rows,kcTy],q1,Ty.mem_fvs q2⟩
end Go.Am.Fe
end
section
namespace Go.Am.Fe
open Go.Proofs
set_option maxRecDepth 1000000
def kcWi:Tryz.prog.cellsOf 27=3:=by kernel_rfl
def ZOB:Tryz.prog.cellsOf 25=1:=by kernel_rfl
def kcMb:Tryz.prog.cellsOf 48=2:=by kernel_rfl
def ZOz:Tryz.prog.underlying 25=some (.slice 27):=by kernel_rfl
theorem ZOt (n:Nat): ∀xs,Shp Tryz.prog n 27 xs-> ∃w:Wi,w.row=xs/\w.fv:=by
 induction n using Nat.strongRecOn with
 | _ n ih=>
 intro xs h;obtain ⟨m,hm,hl,hf⟩:=ZIC h (l:=[(0,3),(1,22),(2,25)]) (by kernel_rfl);rw [kcWi] at hl
 match xs,hl with
 | [x0,x1,x2],_=>
   have h0:Shp Tryz.prog m 3 [x0]:=by simpa [ZN4] using hf (0,3) Zs
   have h1:Shp Tryz.prog m 22 [x1]:=by simpa [ZOk] using hf (1,22) Zs
   have h2:Shp Tryz.prog m 25 [x2]:=by simpa [ZOB] using hf (2,25) Zs
   obtain ⟨k,rfl⟩:=ZLa h0 ZN6;obtain ⟨ts,e,q1,q2⟩:=ZOc h1;injection e with e;subst e;obtain ⟨l,rfl,q3,q4⟩:=ZJ4 (row:=Wi.row) (p:=Wi.fv) h2 ZOz fun m' hm' r hr=>ih m' Zo r hr;exact ⟨.mk k ts l,by simp [Wi.row,Wi.encs_rows,Wi.c,Wi.ts,Wi.l,kcWi],⟨q1,q2⟩,q3,Wi.mem_fvs q4⟩
theorem ZOv {n:Nat} {xs:List P} (h:Shp Tryz.prog n 48 xs): ∃q m:List Nat,[P.str q,P.str m]=xs:=by
 obtain ⟨m,hm,hl,hf⟩:=ZIC h (l:=[(0,9),(1,9)]) (by kernel_rfl);rw [kcMb] at hl
 match xs,hl with
 | [x0,x1],_=>
   have h0:Shp Tryz.prog m 9 [x0]:=by simpa [ZN9] using hf (0,9) Zs
   have h1:Shp Tryz.prog m 9 [x1]:=by simpa [ZN9] using hf (1,9) Zs
   obtain ⟨q,rfl,_⟩:=ZK1 h0 ZNT;obtain ⟨s,rfl,_⟩:=ZK1 h1 ZNT;exact ⟨q,s,rfl⟩
end Go.Am.Fe
end
