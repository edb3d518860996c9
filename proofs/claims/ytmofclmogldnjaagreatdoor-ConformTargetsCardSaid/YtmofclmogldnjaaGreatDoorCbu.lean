/- Part. -/
import Derived.Test.YtmofclmogldnjaaGreatDoorCbs
set_option maxRecDepth 999999
set_option maxHeartbeats 0
set_option linter.all false
section
namespace Go.Am
open Go.Proofs
def ZI8 (W:World) (b:Nat):Nat:=((W.shape? b).map (·.2)).getD 0
def gOf (W:World):G:=⟨0,fun b=>W.heap.size<=b∨ ∃i,i<([]:List (List C)).length/\b=0,fun b=>if b<W.heap.size then 4294967296+ZI8 W b else 0,fun _=>none,fun _=>0,fun _=>0⟩
def ZNw {W:World} {b o:Nat} {v:Value} (h:W.cell? ⟨b,o,none⟩=some v):o<ZI8 W b:=by
 unfold World.cell? at h;unfold ZI8 World.shape?;split at h
 ·rename_i c e z hb;simp at h;rw [hb];rcases Yt o c.size with h'|h'
  ·simpa using h'
  ·rw [jK h'] at h;cases h
 ·cases h
def Zub {S:Nat->Option Fn} (hS:FnOK Tryz.prog S) {f:Nat} {args:List A} {b:Bool} {Q:List A->List (List C)->Prop} (hg:Gives S f args [] Q) (hQ: ∀rs os,Q rs os->rs=[.one (.p (.bool b))])
  (hcl: ∀x∈args,x.clean=true) {W:World} {vs:List Value} (hr:ZdP (gOf W) W vs args)
  (htab:Lib.TabIs Tryz.prog W ZhA .u64 Lib.pow10Tab) (hmax: ∃m,W.cell? ⟨0,0,none⟩=some (.int .i64 m)):
  Calls Tryz.prog f vs.toArray W fun e w'=>e= .returned (.bool b)/\RowKit.Below W.heap.size W w':=by
 obtain ⟨n,rs,os',hc,hq⟩:=hg;obtain rfl:=hQ _ _ hq;obtain ⟨_,h⟩:=ZlN hS n f args [] _ _ hc;have hlt0:0<W.heap.size:=by
  obtain ⟨m,hm⟩:=hmax;exact ZrY (b:=0) (o:=0) hm
 refine (h (gOf W) W vs hr hcl Zs Zs Zs ?_ ?_ rfl).mono ?_
 ·intro k hk;exact ⟨if_neg Zo,rfl⟩
 ·refine ⟨⟨htab,fun k hk=>?_⟩,hmax,?_⟩
  ·have:k<W.heap.size:=by
    unfold Lib.TabIs World.var? at htab;rw [hk] at htab;simp only [jX] at htab;rcases Yt k W.heap.size with h'|h'
    ·exact h'
    ·rw [jK h'] at htab;simp at htab
   show 20<=if k<W.heap.size then 4294967296+ZI8 W k else 0
   rw [if_pos this];omega
  ·show 1<=if 0<W.heap.size then 4294967296+ZI8 W 0 else 0
   rw [if_pos hlt0];omega
 ·rintro e w' ⟨v,g',rfl,hE,_,_,_,hR,_⟩;refine ⟨?_,hE.os,hE.tape,hE.output,hE.size,fun k hk=>hE.hid k hk rfl ?_⟩
  ·have hR:RepP g'.pr w' v (.bool b):=hR;cases hR;rfl
  ·rintro (h'|⟨i,h',_⟩)
   ·omega
   ·simp at h'
def Ztk (b:ByteArray):Fe.Byt (ZbJ b):=by
 intro c hc;obtain ⟨x,_,rfl⟩:=List.mem_map.1 hc;exact x.toNat_lt
end Go.Am
end
