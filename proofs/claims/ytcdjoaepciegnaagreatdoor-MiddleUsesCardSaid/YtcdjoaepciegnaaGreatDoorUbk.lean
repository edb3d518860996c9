/- Part. -/
import Derived.Test.YtcdjoaepciegnaaGreatDoorUbi
import Derived.Test.YtcdjoaepciegnaaGreatDoorUbh
set_option maxRecDepth 999999
set_option maxHeartbeats 0
set_option linter.all false
section
namespace Go.Am
open Go.Proofs
variable [WI]
def ZGK:List C->Option (List Int)
 | []=>some []
 | .p (.int .i64 x)::r=>match ZGK r with
   | some l=>some (x::l)
   | none=>none
 | _=>none
def ZGB (l:List Int):List C:=l.map fun x=> .p (.int .i64 x)
def ZH5: ∀l:List Int,ZGK (ZGB l)=some l
 | []=>rfl
 | x::l=>by
   have:=ZH5 l
   unfold ZGB at this⊢
   rw [Yp]
   unfold ZGK
   rw [this]
def ZFs: ∀{cs:List C} {l:List Int},ZGK cs=some l->cs=ZGB l
 | [],l,h=>by injection h with h;subst h;rfl
 | c::cs,l,h=>by
   unfold ZGK at h
   split at h
   · rename_i he;cases he
   · rename_i x r he
     injection he with h1 h2
     subst h1 h2
     split at h
     · rename_i l' hl
       injection h with h
       subst h
       rw [ZFs hl];rfl
     · cases h
   · cases h
def ZKr (zs:List Int):List C:=ZGB (once zs++List.replicate (zs.length-(once zs).length) 0)
def oncP (args:List A) (os:List (List C)):Option (List A×List (List C)):=match args,os with
 | [.one (.own ⟨false,0,0⟩ 1 n)],[cs]=>match ZGK cs with
   | some zs=>if zs.length=n/\n<4611686018427387904 then some ([.one (.own ⟨false,0,0⟩ 1 (once zs).length)],[ZKr zs]) else none
   | none=>none
 | [.one (.p (.sl 1 []))],[]=>some ([.one (.p (.sl 1 []))],[])
 | _,_=>none
def ZJz {g:G} {w:World} {k c:Nat} {vs:List Value} {l:List Int} (h:RepCells g w k c vs (ZGB l)):vs=l.map (Value.int .i64):=by
 obtain ⟨h1,h2⟩:=h
 have hl:vs.length=l.length:=by rw [h1];simp [ZGB]
 apply List.ext_getElem?
 intro i
 rcases Yt i l.length with h|h
 ·have a1:vs[i]? =some vs[i]:=Ya Zo
  have a2:(ZGB l)[i]? =some (.p (.int .i64 l[i])):=by simp [ZGB,h]
  have hr:RepP g.pr w vs[i] (.int .i64 l[i]):=h2 i _ _ a1 a2
  rw [a1]
  simp only [Yn,Ya h,YM,Ye]
  generalize vs[i]=u at hr
  cases hr;rfl
 ·rw [List.getElem?_eq_none Zo,List.getElem?_eq_none (by simpa using h)]
def ZJi {g:G} {w:World} {k c:Nat} (l:List Int):RepCells g w k c (l.map (Value.int .i64)) (ZGB l):=by
 refine ⟨by simp [ZGB],fun i u x hu hx=>?_⟩
 have hi:i<l.length:=by have:=Zaq hu;simpa using this
 simp [hi] at hu
 simp [ZGB,hi] at hx
 subst hu hx
 exact RepP.int _ _
theorem ZJN:Zf2 Proofs.Tryz.prog 39 oncP:=by
 intro args os rs os' hp
 refine ⟨by kernel_rfl,fun g w vs hr k1 k2 hbox k3 hf hi hT=>?_⟩
 unfold oncP at hp
 split at hp
 · rename_i n cs
   split at hp
   · rename_i zs hzs
     split at hp
     · rename_i hn
       obtain ⟨rfl,hlt⟩:=hn
       injection hp with hp
       injection hp with h1 h2
       subst h1 h2
       obtain ⟨v,rfl,hv⟩:=Zih hr
       obtain ⟨cap,hv,hn,cs2,t2,r2,r3⟩:=(show RepC g w (0,0,0) v (.own ⟨false,0,0⟩ 1 zs.length) from hv)
       have hv:v= .slice (some ⟨g.ω 0,0,none⟩) zs.length cap:=hv
       have r2:w.heap[g.ω 0]? =some (.cells cs2 t2 (0,0)):=r2
       have r3:0+cap*1<=cs2.size:=r3
       obtain ⟨us,t,hb,⟨hl,hrc⟩,hpr,how⟩:=hbox 0 cs rfl
       obtain rfl:=ZFs hzs
       have hcl:(ZGB zs).length=zs.length:=by simp [ZGB]
       rw [hcl] at hl hrc
       have ht:=ZJz hrc
       have hbs:=ZaB hb
       have hol:=ZEB zs
       subst hv
       refine (Proofs.Tryz.once_cells (g.ω 0) cap us t zs w hb ht hn hl hlt).mono ?_
       rintro e w1 ⟨rfl,hg,cur,hb1,hs1,ht1⟩
       have hTb:g.T (g.ω 0):=by rw [hT];exact .inr ⟨0,by simp,rfl⟩
       have hE:Ext g.T g.pr g.ow w w1 g.pr g.ow:=by
         refine ⟨hg.os,hg.tape,hg.output,hg.size,fun b o hbo=>?_,fun _ _=>Yc _,fun _ _ h _=>⟨rfl,h⟩,fun b hb' _ hnT=>?_⟩
         · by_cases e:b=g.ω 0
           · subst e
             rw [hb] at hbo
             injection hbo with hbo
             subst hbo
             exact ⟨_,hb1,cur,rfl,hs1,fun j hj=>by omega⟩
           · exact ⟨o,(hg.block b (ZaB hbo) (fun h=>e (Option.some.inj h))).trans hbo,.refl _ _⟩
         · exact hg.block b hb' (fun h=>by rw [Option.some.inj h] at hnT;exact hnT hTb)
       have hc2:cs2.size=us.size:=by rw [r2] at hb;injection hb with hb;injection hb with hb;rw [hb]
       refine ⟨_,g,rfl,hE,rfl,rfl,fun b hb=>hf b (Yy hg.size hb),?_,fun i cs' hi=>?_⟩
       · exact ⟨cap,rfl,by omega,cur,t,hb1,by show 0+cap*1<=cur.size;omega⟩
       · match i,hi with
         | 0,hi=>
           injection hi with hi
           subst hi
           have hx:(ZKr zs).length=zs.length:=by simp [ZKr,ZGB];omega
           refine ⟨cur,t,hb1,⟨by omega,?_⟩,hpr,how⟩
           rw [hx,ht1]
           exact ZJi _
         | i+1,hi=>simp at hi
     · cases hp
   · cases hp
 · injection hp with hp
   injection hp with h1 h2
   subst h1 h2
   obtain ⟨v,rfl,hv⟩:=Zih hr
   have hv:RepP g.pr w v (.sl 1 []):=hv
   obtain ⟨a,cap,rfl⟩: ∃a cap,v= .slice a 0 cap:=by
     cases hv with
     | nils a cap s=>exact ⟨_,_,rfl⟩
     | sl b o len cap s rows vs hl hcap hpr hlen hc hr=>simp only [List.length_nil] at hl;subst hl;exact ⟨_,_,rfl⟩
   refine (Proofs.Tryz.once_none a cap w).mono ?_
   rintro e w1 ⟨rfl,rfl⟩
   exact ⟨_,g,rfl,Ext.refl _ _ _ _,rfl,rfl,hf,hv,by simp⟩
 · cases hp
end Go.Am
end
