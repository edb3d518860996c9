/- Part. -/
import Derived.Test.YtmofclmogldnjaaGreatDoorCbh
import Derived.Test.YtmofclmogldnjaaGreatDoorCbm
set_option maxRecDepth 999999
set_option maxHeartbeats 0
set_option linter.all false
section
namespace Go.Am
variable [WI] {Pg:Program}
def Znz {T:Nat->Prop} {pr:Nat->Nat} {ow:Nat->Option Loc} {w w':World} (hB:RowKit.Below w.heap.size w w'):Ext T pr ow w w' pr ow:=
 ⟨hB.os,hB.tape,hB.output,hB.size,fun b o hb=>⟨o,by rw [hB.block b (ZaB hb)];exact hb,.refl _ _⟩,fun _ _=>Yc _,fun b _ ho _=>⟨rfl,ho⟩,fun b hb _ _=>hB.block b hb⟩
def ZqS {f:Nat} {p:List A->Option (List Nat)} (hE:Zhz Pg f=true)
   (h: ∀args t,p args=some t-> ∀(g:G) (w:World) (vs:List Value),ZdP g w vs args->ZnQ g.pr g.ow w->WI.I g.pr w->
     Calls Pg f vs.toArray w fun e w'=> ∃bs:ByteArray,e= .returned (.string bs)/\ZbJ bs=t/\RowKit.Below w.heap.size w w'):
   Zf2 Pg f fun args os=>if os.isEmpty then (p args).map fun t=>([.one (.p (.str t))],[]) else none:=by
 intro args os rs os' hp;cases os with
 | cons o os=>simp at hp
 | nil=>
   simp only [List.isEmpty_nil,if_true,YG] at hp;obtain ⟨t,ht,e⟩:=hp;injection e with e1 e2;subst e1 e2;refine ⟨hE,fun g w vs hr _ _ _ _ hf hi _=>(h args t ht g w vs hr hf hi).mono ?_⟩;rintro e w' ⟨bs,rfl,hb,hB⟩;exact ⟨_,g,rfl,Znz hB,rfl,rfl,fun b hb=>hf b (Yy hB.size hb),RepP.str bs t hb,by simp⟩
theorem Zih {g:G} {w:World} {vs:List Value} {x:A} (h:ZdP g w vs [x]): ∃v,vs=[v]/\RepA g w 0 0 v x:=by
 obtain ⟨hl,h⟩:=h
 match vs,hl with
 | [v],_=>exact ⟨v,rfl,h 0 v x rfl rfl⟩
def ZrQ {g:G} {w:World} {k c:Nat} {v:Value} {s:List Nat} (h:RepA g w k c v (.one (.p (.str s)))): ∃bs:ByteArray,v= .string bs/\ZbJ bs=s:=by
 have h:RepP g.pr w v (.str s):=h;cases h with
 | str bs t h=>exact ⟨bs,rfl,h⟩
def escN (c:Nat):List Nat:=if c=10 then [92,110] else if c=9 then [92,116] else if c=92 then [92,92] else if c=34 then [92,34] else [c]
def Zwu (l:List Nat):List Nat:=(l.map escN).flatten
def ZzH (c:UInt8):(Proofs.Tryz.esc c).map UInt8.toNat=escN c.toNat:=by
 unfold Proofs.Tryz.esc escN;by_cases h0:c=10
 ·subst h0;rfl
 by_cases h1:c=9
 ·subst h1;rfl
 by_cases h2:c=92
 ·subst h2;rfl
 by_cases h3:c=34
 ·subst h3;rfl
 have k0:c.toNat≠10:=fun e=>h0 (UInt8.toNat_inj.1 e);have k1:c.toNat≠9:=fun e=>h1 (UInt8.toNat_inj.1 e);have k2:c.toNat≠92:=fun e=>h2 (UInt8.toNat_inj.1 e);have k3:c.toNat≠34:=fun e=>h3 (UInt8.toNat_inj.1 e);simp [h0,h1,h2,h3,k0,k1,k2,k3]
def ZwM (l:List UInt8):(Proofs.Tryz.escL l).map UInt8.toNat=Zwu (l.map UInt8.toNat):=by
 induction l with
 | nil=>rfl
 | cons c l ih=>simp [Proofs.Tryz.escL,Zwu,ZzH] at*;exact ih
def escP (args:List A):Option (List Nat):=match args with
 | [.one (.p (.str s))]=>if s.length<=35184372088832 then some (Zwu s) else none
 | _=>none
def Zzn:Zf2 Proofs.Tryz.prog 376 fun args os=>if os.isEmpty then (escP args).map fun t=>([.one (.p (.str t))],[]) else none:=by
 refine ZqS (by kernel_rfl) fun args t ht g w vs hr hf hi=>?_;unfold escP at ht;split at ht
 ·rename_i s;split at ht
  ·rename_i hs;injection ht with ht;subst ht;obtain ⟨v,rfl,hv⟩:=Zih hr;obtain ⟨bs,rfl,hb⟩:=ZrQ hv;have hsz:bs.size<=35184372088832:=by
    have h1:(ZbJ bs).length=bs.size:=by rw [ZbJ,Yh,jG];rfl
    rw [hb] at h1;omega
   refine (Proofs.Tryz.escaped_walk bs w hsz).mono ?_;rintro e w' ⟨rfl,hB⟩;exact ⟨_,rfl,by rw [<-hb];exact ZwM _,hB⟩
  ·cases ht
 ·cases ht
end Go.Am
end
