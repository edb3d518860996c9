/- Part. -/
import Derived.Test.YtcdjoaepciegnaaGreatDoorUav
import Derived.Test.YtcdjoaepciegnaaGreatDoorUaf
import Derived.Test.YtcdjoaepciegnaaGreatDoorUat
import Derived.Test.YtcdjoaepciegnaaGreatDoorProg
set_option maxRecDepth 999999
set_option maxHeartbeats 0
set_option linter.all false
section
namespace Go.Am
open Go.Proofs
attribute [local instance] wiB
def ZGX (W:World) (b:Nat):Nat:=((W.shape? b).map (·.2)).getD 0
def gOf (W:World):G:=⟨0,fun b=>W.heap.size<=b∨ ∃i,i<([]:List (List C)).length/\b=0,fun b=>if b<W.heap.size then 4294967296+ZGX W b else 0,fun _=>none,fun _=>0,fun _=>0⟩
def ZKa {W:World} {b o:Nat} {v:Value} (h:W.cell? ⟨b,o,none⟩=some v):o<ZGX W b:=by
 unfold World.cell? at h
 unfold ZGX World.shape?
 split at h
 ·rename_i c e z hb
  simp at h
  rw [hb]
  rcases Yt o c.size with h'|h'
  ·simpa using h'
  ·rw [Array.getElem?_eq_none h'] at h
   cases h
 ·cases h
def ZHX {S:Nat->Option Fn} (hS:FnOK Tryz.prog S) {f:Nat} {args:List A} {b:Bool} {Q:List A->List (List C)->Prop} (hg:Gives S f args [] Q) (hQ: ∀rs os,Q rs os->rs=[.one (.p (.bool b))])
  (hcl: ∀x∈args,x.clean=true) {W:World} {vs:List Value} (hr:ZdP (gOf W) W vs args):
  Calls Tryz.prog f vs.toArray W fun e w'=>e= .returned (.bool b)/\RowKit.Below W.heap.size W w':=by
 obtain ⟨n,rs,os',hc,hq⟩:=hg
 obtain rfl:=hQ _ _ hq
 obtain ⟨_,h⟩:=ZlN hS n f args [] _ _ hc
 refine (h (gOf W) W vs hr hcl Zs Zs Zs ?_ trivial rfl).mono ?_
 ·intro k hk
  exact ⟨if_neg Zo,rfl⟩
 ·rintro e w' ⟨v,g',rfl,hE,_,_,_,hR,_⟩
  refine ⟨?_,hE.os,hE.tape,hE.output,hE.size,fun k hk=>hE.hid k hk rfl ?_⟩
  ·have hR:RepP g'.pr w' v (.bool b):=hR
   cases hR
   rfl
  ·rintro (h|⟨i,h,_⟩)
   ·omega
   ·simp at h
end Go.Am
end
