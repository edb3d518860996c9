/- Part. -/
import Derived.Test.YtnnimjficnjbdaaGreatDoorOao
import Derived.Test.YtnnimjficnjbdaaGreatDoorOag
import Derived.Test.YtnnimjficnjbdaaGreatDoorProg
set_option maxRecDepth 999999
set_option maxHeartbeats 0
set_option linter.all false
section
namespace Go.Am.Fe
open Go.Proofs
set_option maxRecDepth 1000000
variable {Pg:Program}
theorem ZKe {n:Nat} {t:TypeId} {a:P} {k:IntKind} (h:Shp Pg n t [a]) (hu:Pg.underlying t=some (.int k)): ∃v,a= .int k v:=by
 cases n with
 | zero=>exact h.elim
 | succ n=>simp only [Shp,hu] at h;obtain ⟨v,e,_⟩:=h;injection e with e;exact ⟨v,e⟩
theorem ZN8 {n:Nat} {t:TypeId} {a:P} (h:Shp Pg n t [a]) (hu:Pg.underlying t=some .string): ∃v:List Nat,a= .str v/\v.length<=9223372036854775807:=by
 cases n with
 | zero=>exact h.elim
 | succ n=>
   simp only [Shp,hu] at h
   obtain ⟨s,e,hs⟩:=h
   injection e with e
   refine ⟨_,e,?_⟩
   have h1:(ZbJ s).length=s.size:=by rw [ZbJ,List.length_map,Array.length_toList];rfl
   unfold maxLen at hs
   omega
theorem ZKG {α:Type} {n:Nat} {t e:TypeId} {a:P} {row:α->List P} {p:α->Prop} (h:Shp Pg n t [a]) (hu:Pg.underlying t=some (.slice e)) (hx: ∀m,m<n-> ∀r,Shp Pg m e r-> ∃x,row x=r/\p x):
   ∃L:List α,a= .sl (Pg.cellsOf e) (L.map row)/\L.length<=9223372036854775807/\ ∀x∈L,p x:=by
 cases n with
 | zero=>exact h.elim
 | succ n=>
   simp only [Shp,hu] at h
   obtain ⟨rows,e1,e2,e3⟩:=h
   injection e1 with e1
   subst e1
   suffices∃L:List α,L.map row=rows/\ ∀x∈L,p x by
     obtain ⟨L,rfl,hp⟩:=this
     exact ⟨L,rfl,by simpa using e2,hp⟩
   clear e2
   induction rows with
   | nil=>exact ⟨[],rfl,fun _ h=>nomatch h⟩
   | cons r l ih=>
     obtain ⟨L,e,hp⟩:=ih fun x hx=>e3 x (List.mem_cons_of_mem _ hx)
     obtain ⟨x,ex,hq⟩:=hx n (Nat.lt_succ_self _) r (e3 r List.mem_cons_self)
     exact ⟨x::L,by simp [e,ex],fun y hy=>(List.mem_cons.1 hy).elim (fun h=>h ▸ hq) (hp y)⟩
def flds (Pg:Program) (t:TypeId):Option (List (Nat×TypeId)):=match Pg.underlying t with
 | some (.struct fs)=>some (fs.toList.map fun f=>(f.offset,f.type))
 | _=>none
theorem ZKp {n:Nat} {t:TypeId} {xs:List P} {l:List (Nat×TypeId)} (h:Shp Pg n t xs) (hf:flds Pg t=some l): ∃m,m<n/\xs.length=Pg.cellsOf t/\ ∀p∈l,Shp Pg m p.2 ((xs.drop p.1).take (Pg.cellsOf p.2)):=by
 cases n with
 | zero=>exact h.elim
 | succ m=>
   unfold flds at hf
   split at hf
   · rename_i fs hu
     injection hf with hf
     subst hf
     simp only [Shp,hu] at h
     refine ⟨m,Nat.lt_succ_self _,h.1,fun p hp=>?_⟩
     obtain ⟨f,hf,rfl⟩:=List.mem_map.1 hp
     exact h.2 f hf
   · cases hf
theorem ZPD:Tryz.prog.cellsOf 3=1:=by kernel_rfl
theorem ZRr:Tryz.prog.cellsOf 9=1:=by kernel_rfl
theorem kcTy:Tryz.prog.cellsOf 24=4:=by kernel_rfl
theorem ZRI:Tryz.prog.cellsOf 22=1:=by kernel_rfl
theorem kcNd:Tryz.prog.cellsOf 27=10:=by kernel_rfl
theorem ZRY:Tryz.prog.cellsOf 25=1:=by kernel_rfl
theorem ZP8:Tryz.prog.underlying 3=some (.int .i64):=by kernel_rfl
theorem ZRi:Tryz.prog.underlying 9=some (.string):=by kernel_rfl
theorem ZRo:Tryz.prog.underlying 22=some (.slice 24):=by kernel_rfl
theorem ZRU:Tryz.prog.underlying 25=some (.slice 27):=by kernel_rfl
theorem ZRy (n:Nat): ∀xs,Shp Tryz.prog n 24 xs-> ∃t:Ty,t.row=xs/\t.fw:=by
 induction n using Nat.strongRecOn with
 | _ n ih=>
 intro xs h
 obtain ⟨m,hm,hl,hf⟩:=ZKp h (l:=[(0,3),(1,9),(2,3),(3,22)]) (by kernel_rfl)
 rw [kcTy] at hl
 match xs,hl with
 | [x0,x1,x2,x3],_=>
   have h0:Shp Tryz.prog m 3 [x0]:=by simpa [ZPD] using hf (0,3) Zs
   have h1:Shp Tryz.prog m 9 [x1]:=by simpa [ZRr] using hf (1,9) Zs
   have h2:Shp Tryz.prog m 3 [x2]:=by simpa [ZPD] using hf (2,3) Zs
   have h3:Shp Tryz.prog m 22 [x3]:=by simpa [ZRI] using hf (3,22) Zs
   obtain ⟨k,rfl⟩:=ZKe h0 ZP8
   obtain ⟨s,rfl,_⟩:=ZN8 h1 ZRi
   obtain ⟨n,rfl⟩:=ZKe h2 ZP8
   obtain ⟨a,rfl,q3⟩:=ZKG (row:=Ty.row) (p:=Ty.fw) h3 ZRo fun m' hm' r hr=>ih m' Zo r hr
   exact ⟨.mk k s n a,by simp [Ty.row,Ty.encs_rows,Ty.k,Ty.s,Ty.n,Ty.a,kcTy],⟨q3.1,Ty.mem_fws q3.2⟩⟩
theorem Nd.mem_fws: ∀{l:List Nd},(∀t∈l,t.fw)->Nd.fws l
 | [],_=>trivial
 | t::l,h=>⟨h t List.mem_cons_self,Nd.mem_fws fun u hu=>h u (List.mem_cons_of_mem _ hu)⟩
theorem ZQp (n:Nat): ∀xs,Shp Tryz.prog n 27 xs-> ∃t:Nd,t.row=xs/\t.fw:=by
 induction n using Nat.strongRecOn with
 | _ n ih=>
 intro xs h
 obtain ⟨m,hm,hl,hf⟩:=ZKp h (l:=[(0,3),(1,9),(2,3),(3,24),(7,22),(8,25),(9,3)]) (by kernel_rfl)
 rw [kcNd] at hl
 match xs,hl with
 | [x0,x1,x2,x3,x4,x5,x6,x7,x8,x9],_=>
   have h0:Shp Tryz.prog m 3 [x0]:=by simpa [ZPD] using hf (0,3) Zs
   have h1:Shp Tryz.prog m 9 [x1]:=by simpa [ZRr] using hf (1,9) Zs
   have h2:Shp Tryz.prog m 3 [x2]:=by simpa [ZPD] using hf (2,3) Zs
   have h3:Shp Tryz.prog m 24 [x3,x4,x5,x6]:=by simpa [kcTy] using hf (3,24) Zs
   have h7:Shp Tryz.prog m 22 [x7]:=by simpa [ZRI] using hf (7,22) Zs
   have h8:Shp Tryz.prog m 25 [x8]:=by simpa [ZRY] using hf (8,25) Zs
   have h9:Shp Tryz.prog m 3 [x9]:=by simpa [ZPD] using hf (9,3) Zs
   obtain ⟨k,rfl⟩:=ZKe h0 ZP8
   obtain ⟨s,rfl,qs⟩:=ZN8 h1 ZRi
   obtain ⟨n,rfl⟩:=ZKe h2 ZP8
   obtain ⟨t,et,qt⟩:=ZRy _ _ h3
   obtain ⟨ts,rfl,q7⟩:=ZKG (row:=Ty.row) (p:=Ty.fw) h7 ZRo fun m' hm' r hr=>ZRy m' r hr
   obtain ⟨l,rfl,q8⟩:=ZKG (row:=Nd.row) (p:=Nd.fw) h8 ZRU fun m' hm' r hr=>ih m' Zo r hr
   obtain ⟨z,rfl⟩:=ZKe h9 ZP8
   simp only [Ty.row,List.cons.injEq,and_true] at et
   obtain ⟨rfl,rfl,rfl,rfl⟩:=et
   exact ⟨.mk k s n t ts l z,by simp [Nd.row,Nd.op,Nd.s,Nd.n,Nd.t,Nd.ts,Nd.l,Nd.z,Ty.encs_rows,Nd.encs_rows,kcTy,kcNd],⟨qs,qt,q7.1,Ty.mem_fws q7.2,q8.1,Nd.mem_fws q8.2⟩⟩
end Go.Am.Fe
end
