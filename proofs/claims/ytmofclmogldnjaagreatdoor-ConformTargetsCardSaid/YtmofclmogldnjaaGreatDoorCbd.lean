/- Part. -/
import Derived.Test.YtmofclmogldnjaaGreatDoorCbc
import Derived.Test.YtmofclmogldnjaaGreatDoorCat
set_option maxRecDepth 999999
set_option maxHeartbeats 0
set_option linter.all false
section
namespace Go.Am.Fe
variable {Pg:Program}
def ZLa {n:Nat} {t:TypeId} {a:P} {k:IntKind} (h:Shp Pg n t [a]) (hu:Pg.underlying t=some (.int k)): ∃v,a= .int k v:=by
 cases n with
 | zero=>exact h.elim
 | succ n=>simp only [Shp,hu] at h;obtain ⟨v,e,_⟩:=h;injection e with e;exact ⟨v,e⟩
def ZK1 {n:Nat} {t:TypeId} {a:P} (h:Shp Pg n t [a]) (hu:Pg.underlying t=some .string): ∃v,a= .str v/\Byt v:=by
 cases n with
 | zero=>exact h.elim
 | succ n=>simp only [Shp,hu] at h;obtain ⟨v,e⟩:=h;injection e with e;exact ⟨_,e,fun c hc=>by
  obtain ⟨x,_,rfl⟩:=List.mem_map.1 hc;exact x.toNat_lt⟩
theorem ZJ4 {α:Type} {n:Nat} {t e:TypeId} {a:P} {row:α->List P} {p:α->Prop} (h:Shp Pg n t [a]) (hu:Pg.underlying t=some (.slice e)) (hx: ∀m,m<n-> ∀r,Shp Pg m e r-> ∃x,row x=r/\p x):
   ∃L:List α,a= .sl (Pg.cellsOf e) (L.map row)/\L.length<=9223372036854775807/\ ∀x∈L,p x:=by
 cases n with
 | zero=>exact h.elim
 | succ n=>
   simp only [Shp,hu] at h;obtain ⟨rows,e1,e2,e3⟩:=h;injection e1 with e1;subst e1
   suffices∃L:List α,L.map row=rows/\ ∀x∈L,p x by
     obtain ⟨L,rfl,hp⟩:=this;exact ⟨L,rfl,by simpa using e2,hp⟩
   clear e2
   induction rows with
   | nil=>exact ⟨[],rfl,fun _ h=>nomatch h⟩
   | cons r l ih=>
     obtain ⟨L,e,hp⟩:=ih fun x hx=>e3 x (Yk _ hx);obtain ⟨x,ex,hq⟩:=hx n (Yz _) r (e3 r Yr);exact ⟨x::L,by simp [e,ex],fun y hy=>(List.mem_cons.1 hy).elim (fun h=>h ▸ hq) (hp y)⟩
def flds (Pg:Program) (t:TypeId):Option (List (Nat×TypeId)):=match Pg.underlying t with
 | some (.struct fs)=>some (fs.toList.map fun f=>(f.offset,f.type))
 | _=>none
def ZIC {n:Nat} {t:TypeId} {xs:List P} {l:List (Nat×TypeId)} (h:Shp Pg n t xs) (hf:flds Pg t=some l): ∃m,m<n/\xs.length=Pg.cellsOf t/\ ∀p∈l,Shp Pg m p.2 ((xs.drop p.1).take (Pg.cellsOf p.2)):=by
 cases n with
 | zero=>exact h.elim
 | succ m=>
   unfold flds at hf;split at hf
   · rename_i fs hu;injection hf with hf;subst hf;simp only [Shp,hu] at h;refine ⟨m,Yz _,h.1,fun p hp=>?_⟩;obtain ⟨f,hf,rfl⟩:=List.mem_map.1 hp;exact h.2 f hf
   · cases hf
end Go.Am.Fe
end
