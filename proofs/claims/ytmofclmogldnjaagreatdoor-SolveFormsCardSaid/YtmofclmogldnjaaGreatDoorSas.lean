/- Part. -/
import Derived.Test.YtmofclmogldnjaaGreatDoorSap
import Derived.Test.YtmofclmogldnjaaGreatDoorSah
import Derived.Test.YtmofclmogldnjaaGreatDoorProg
set_option maxRecDepth 999999
set_option maxHeartbeats 0
set_option linter.all false
section
namespace Go.Am.Fe
open Go.Proofs
set_option maxRecDepth 1000000
variable {Pg:Program}
def ZhV {n:Nat} {t:TypeId} {a:P} {k:IntKind} (h:Shp Pg n t [a]) (hu:Pg.underlying t=some (.int k)): ∃v,a= .int k v:=by
 cases n with
 | zero=>exact h.elim
 | succ n=>simp only [Shp,hu] at h;obtain ⟨v,e,_⟩:=h;injection e with e;exact ⟨v,e⟩
def ZqS {n:Nat} {t:TypeId} {a:P} (h:Shp Pg n t [a]) (hu:Pg.underlying t=some .string): ∃v,a= .str v:=by
 cases n with
 | zero=>exact h.elim
 | succ n=>simp only [Shp,hu] at h;obtain ⟨v,e⟩:=h;injection e with e;exact ⟨_,e⟩
theorem ZgH {α:Type} {n:Nat} {t e:TypeId} {a:P} {row:α->List P} {p:α->Prop} (h:Shp Pg n t [a]) (hu:Pg.underlying t=some (.slice e)) (hx: ∀m,m<n-> ∀r,Shp Pg m e r-> ∃x,row x=r/\p x):
   ∃L:List α,a= .sl (Pg.cellsOf e) (L.map row)/\L.length<=9223372036854775807/\ ∀x∈L,p x:=by
 cases n with
 | zero=>exact h.elim
 | succ n=>
   simp only [Shp,hu] at h
   obtain ⟨rows,e1,e2,e3⟩:=h
   injection e1 with e1
   subst e1
   suffices∃L:List α,L.map row=rows/\ ∀x∈L,p x by
     obtain ⟨L,rfl,hp⟩:=this
     exact ⟨L,rfl,by simpa using e2,hp⟩
   clear e2
   induction rows with
   | nil=>exact ⟨[],rfl,fun _ h=>nomatch h⟩
   | cons r l ih=>
     obtain ⟨L,e,hp⟩:=ih fun x hx=>e3 x (Yk _ hx)
     obtain ⟨x,ex,hq⟩:=hx n (Yz _) r (e3 r Yr)
     exact ⟨x::L,by simp [e,ex],fun y hy=>(List.mem_cons.1 hy).elim (fun h=>h ▸ hq) (hp y)⟩
def flds (Pg:Program) (t:TypeId):Option (List (Nat×TypeId)):=match Pg.underlying t with
 | some (.struct fs)=>some (fs.toList.map fun f=>(f.offset,f.type))
 | _=>none
def ZeV {n:Nat} {t:TypeId} {xs:List P} {l:List (Nat×TypeId)} (h:Shp Pg n t xs) (hf:flds Pg t=some l): ∃m,m<n/\xs.length=Pg.cellsOf t/\ ∀p∈l,Shp Pg m p.2 ((xs.drop p.1).take (Pg.cellsOf p.2)):=by
 cases n with
 | zero=>exact h.elim
 | succ m=>
   unfold flds at hf
   split at hf
   · rename_i fs hu
     injection hf with hf
     subst hf
     simp only [Shp,hu] at h
     refine ⟨m,Yz _,h.1,fun p hp=>?_⟩
     obtain ⟨f,hf,rfl⟩:=List.mem_map.1 hp
     exact h.2 f hf
   · cases hf
def ZtF:Tryz.prog.cellsOf 3=1:=by kernel_rfl
def Zzg:Tryz.prog.cellsOf 9=1:=by kernel_rfl
def kcTy:Tryz.prog.cellsOf 24=4:=by kernel_rfl
def ZzQ:Tryz.prog.cellsOf 22=1:=by kernel_rfl
def kcCo:Tryz.prog.cellsOf 123=10:=by kernel_rfl
def Zzw:Tryz.prog.cellsOf 56=1:=by kernel_rfl
def kcAl:Tryz.prog.cellsOf 112=2:=by kernel_rfl
def ZAa:Tryz.prog.cellsOf 110=1:=by kernel_rfl
def kcCh:Tryz.prog.cellsOf 57=1:=by kernel_rfl
def kcPb:Tryz.prog.cellsOf 59=3:=by kernel_rfl
def Zr0:Tryz.prog.underlying 3=some (.int .i64):=by kernel_rfl
def Zzx:Tryz.prog.underlying 9=some (.string):=by kernel_rfl
def Zz3:Tryz.prog.underlying 22=some (.slice 24):=by kernel_rfl
def ZzW:Tryz.prog.underlying 56=some (.slice 123):=by kernel_rfl
def Zy6:Tryz.prog.underlying 110=some (.slice 112):=by kernel_rfl
def kuCh:Tryz.prog.underlying 57=some (.slice 110):=by kernel_rfl
def kuIs:Tryz.prog.underlying 60=some (.slice 3):=by kernel_rfl
theorem Zzo (n:Nat): ∀xs,Shp Tryz.prog n 24 xs-> ∃t:Ty,t.row=xs/\t.fw:=by
 induction n using Nat.strongRecOn with
 | _ n ih=>
 intro xs h
 obtain ⟨m,hm,hl,hf⟩:=ZeV h (l:=[(0,3),(1,9),(2,3),(3,22)]) (by kernel_rfl)
 rw [kcTy] at hl
 match xs,hl with
 | [x0,x1,x2,x3],_=>
   have h0:Shp Tryz.prog m 3 [x0]:=by simpa [ZtF] using hf (0,3) Zs
   have h1:Shp Tryz.prog m 9 [x1]:=by simpa [Zzg] using hf (1,9) Zs
   have h2:Shp Tryz.prog m 3 [x2]:=by simpa [ZtF] using hf (2,3) Zs
   have h3:Shp Tryz.prog m 22 [x3]:=by simpa [ZzQ] using hf (3,22) Zs
   obtain ⟨k,rfl⟩:=ZhV h0 Zr0
   obtain ⟨s,rfl,_⟩:=ZqS h1 Zzx
   obtain ⟨n,rfl⟩:=ZhV h2 Zr0
   obtain ⟨a,rfl,q3⟩:=ZgH (row:=Ty.row) (p:=Ty.fw) h3 Zz3 fun m' hm' r hr=>ih m' Zo r hr
   exact ⟨.mk k s n a,by simp [Ty.row,Ty.encs_rows,Ty.k,Ty.s,Ty.n,Ty.a,kcTy],⟨q3.1,Ty.mem_fws q3.2⟩⟩
def Zvv {n:Nat} {t e:TypeId} {xs:List P} (h:Shp Tryz.prog n t xs) (hu:Tryz.prog.underlying t=some (.slice e)): ∃a,xs=[a]:=by
 cases n with
 | zero=>exact h.elim
 | succ n=>simp only [Shp,hu] at h;obtain ⟨_,e,_⟩:=h;exact ⟨_,e⟩
theorem Zyk {n:Nat} {xs:List P} (h:Shp Tryz.prog n 123 xs): ∃x:Con,x.row=xs/\x.ok:=by
 obtain ⟨m,hm,hl,hf⟩:=ZeV h (l:=[(0,3),(1,24),(5,24),(9,9)]) (by kernel_rfl)
 rw [kcCo] at hl
 match xs,hl with
 | [x0,x1,x2,x3,x4,x5,x6,x7,x8,x9],_=>
   have h0:Shp Tryz.prog m 3 [x0]:=by simpa [ZtF] using hf (0,3) Zs
   have h1:Shp Tryz.prog m 24 [x1,x2,x3,x4]:=by simpa [kcTy] using hf (1,24) Zs
   have h2:Shp Tryz.prog m 24 [x5,x6,x7,x8]:=by simpa [kcTy] using hf (5,24) Zs
   have h3:Shp Tryz.prog m 9 [x9]:=by simpa [Zzg] using hf (9,9) Zs
   obtain ⟨k,rfl⟩:=ZhV h0 Zr0
   obtain ⟨s,rfl⟩:=ZqS h3 Zzx
   obtain ⟨a,ea,qa⟩:=Zzo _ _ h1
   obtain ⟨b,eb,qb⟩:=Zzo _ _ h2
   simp only [Ty.row,Yf,and_true] at ea eb
   obtain ⟨rfl,rfl,rfl,rfl⟩:=ea
   obtain ⟨rfl,rfl,rfl,rfl⟩:=eb
   exact ⟨⟨k,a,b,s⟩,rfl,qa,qb⟩
def ZqX {n:Nat} {a:P} (h:Shp Tryz.prog n 56 [a]): ∃l:List Con,a= .sl 10 (l.map Con.row)/\Ok Con.ok l:=by
 obtain ⟨L,rfl,q1,q2⟩:=ZgH (row:=Con.row) (p:=Con.ok) h ZzW fun m' hm' r hr=>Zyk hr
 exact ⟨L,by rw [kcCo],q1,q2⟩
theorem Zyl {n:Nat} {xs:List P} (h:Shp Tryz.prog n 112 xs): ∃x:Alt,x.row=xs/\x.ok:=by
 obtain ⟨m,hm,hl,hf⟩:=ZeV h (l:=[(0,56),(1,3)]) (by kernel_rfl)
 rw [kcAl] at hl
 match xs,hl with
 | [x0,x1],_=>
   have h0:Shp Tryz.prog m 56 [x0]:=by simpa [Zzw] using hf (0,56) Zs
   have h1:Shp Tryz.prog m 3 [x1]:=by simpa [ZtF] using hf (1,3) Zs
   obtain ⟨l,rfl,q⟩:=ZqX h0
   obtain ⟨z,rfl⟩:=ZhV h1 Zr0
   exact ⟨⟨l,z⟩,rfl,q⟩
def Zvp {n:Nat} {xs:List P} (h:Shp Tryz.prog n 110 xs): ∃l:List Alt,ZaU l=xs/\Ok Alt.ok l:=by
 obtain ⟨a,rfl⟩:=Zvv h Zy6
 obtain ⟨L,rfl,q1,q2⟩:=ZgH (row:=Alt.row) (p:=Alt.ok) h Zy6 fun m' hm' r hr=>Zyl hr
 exact ⟨L,by simp [ZaU,kcAl],q1,q2⟩
theorem Zxt {n:Nat} {xs:List P} (h:Shp Tryz.prog n 59 xs): ∃x:Pb,x.row=xs/\x.ok:=by
 obtain ⟨m,hm,hl,hf⟩:=ZeV h (l:=[(0,3),(1,56),(2,57)]) (by kernel_rfl)
 rw [kcPb] at hl
 match xs,hl with
 | [x0,x1,x2],_=>
   have h0:Shp Tryz.prog m 3 [x0]:=by simpa [ZtF] using hf (0,3) Zs
   have h1:Shp Tryz.prog m 56 [x1]:=by simpa [Zzw] using hf (1,56) Zs
   have h2:Shp Tryz.prog m 57 [x2]:=by simpa [kcCh] using hf (2,57) Zs
   obtain ⟨z,rfl⟩:=ZhV h0 Zr0
   obtain ⟨l,rfl,q⟩:=ZqX h1
   obtain ⟨c,rfl,q2,q3⟩:=ZgH (row:=ZaU) (p:=Ok Alt.ok) h2 kuCh fun m' hm' r hr=>Zvp hr
   exact ⟨⟨z,l,c⟩,by simp [Pb.row,ZAa],q,q2,q3⟩
def Zpe {n:Nat} {a:P} (h:Shp Tryz.prog n 60 [a]): ∃q:List Int,a= .sl 1 (ints q)/\q.length<=9223372036854775807:=by
 obtain ⟨L,rfl,q1,_⟩:=ZgH (row:=fun x:Int=>[P.int .i64 x]) (p:=fun _=>True) h kuIs fun m' hm' r hr=>by
  have: ∃y,r=[y]:=by
   cases m' with
   | zero=>exact hr.elim
   | succ m=>simp only [Shp,Zr0] at hr;obtain ⟨v,e,_⟩:=hr;exact ⟨_,e⟩
  obtain ⟨y,rfl⟩:=this
  obtain ⟨v,rfl⟩:=ZhV hr Zr0
  exact ⟨v,rfl,trivial⟩
 exact ⟨L,by rw [ZtF];rfl,q1⟩
end Go.Am.Fe
end
