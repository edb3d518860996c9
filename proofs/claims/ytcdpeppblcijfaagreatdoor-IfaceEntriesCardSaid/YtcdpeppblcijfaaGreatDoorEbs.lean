/- Part. -/
import Derived.Test.YtcdpeppblcijfaaGreatDoorEbq
set_option maxRecDepth 999999
set_option maxHeartbeats 0
set_option linter.all false
section
namespace Go.Am
open Go.Proofs
def ZE3 (W:World) (b:Nat):Nat:=((W.shape? b).map (·.2)).getD 0
def gOf (W:World):G:=⟨0,fun b=>W.heap.size<=b∨ ∃i,i<([]:List (List C)).length/\b=0,fun b=>if b<W.heap.size then 4294967296+ZE3 W b else 0,fun _=>none,fun _=>0,fun _=>0⟩
def ZGW {W:World} {b o:Nat} {v:Value} (h:W.cell? ⟨b,o,none⟩=some v):o<ZE3 W b:=by
 unfold World.cell? at h
 unfold ZE3 World.shape?
 split at h
 ·rename_i c e z hb
  simp at h
  rw [hb]
  rcases Yt o c.size with h'|h'
  ·simpa using h'
  ·rw [Array.getElem?_eq_none h'] at h
   cases h
 ·cases h
def Zub {S:Nat->Option Fn} (hS:FnOK Tryz.prog S) {f:Nat} {args:List A} {b:Bool} {Q:List A->List (List C)->Prop} (hg:Gives S f args [] Q) (hQ: ∀rs os,Q rs os->rs=[.one (.p (.bool b))])
  (hcl: ∀x∈args,x.clean=true) {W:World} {vs:List Value} (hr:ZdP (gOf W) W vs args)
  (htab:Lib.TabIs Tryz.prog W ZhA .u64 Lib.pow10Tab) (hmax: ∃m,W.cell? ⟨0,0,none⟩=some (.int .i64 m)):
  Calls Tryz.prog f vs.toArray W fun e w'=>e= .returned (.bool b)/\RowKit.Below W.heap.size W w':=by
 obtain ⟨n,rs,os',hc,hq⟩:=hg
 obtain rfl:=hQ _ _ hq
 obtain ⟨_,h⟩:=ZlN hS n f args [] _ _ hc
 have hlt0:0<W.heap.size:=by
  obtain ⟨m,hm⟩:=hmax
  exact ZrY (b:=0) (o:=0) hm
 refine (h (gOf W) W vs hr hcl Zs Zs Zs ?_ ?_ rfl).mono ?_
 ·intro k hk
  exact ⟨if_neg Zo,rfl⟩
 ·refine ⟨⟨htab,fun k hk=>?_⟩,hmax,?_⟩
  ·have:k<W.heap.size:=by
    unfold Lib.TabIs World.var? at htab
    rw [hk] at htab
    simp only [Option.bind_some] at htab
    rcases Yt k W.heap.size with h'|h'
    ·exact h'
    ·rw [Array.getElem?_eq_none h'] at htab
     simp at htab
   show 20<=if k<W.heap.size then 4294967296+ZE3 W k else 0
   rw [if_pos this];omega
  ·show 1<=if 0<W.heap.size then 4294967296+ZE3 W 0 else 0
   rw [if_pos hlt0];omega
 ·rintro e w' ⟨v,g',rfl,hE,_,_,_,hR,_⟩
  refine ⟨?_,hE.os,hE.tape,hE.output,hE.size,fun k hk=>hE.hid k hk rfl ?_⟩
  ·have hR:RepP g'.pr w' v (.bool b):=hR
   cases hR
   rfl
  ·rintro (h'|⟨i,h',_⟩)
   ·omega
   ·simp at h'
theorem ZGq {W:World} {b off len cap:Nat} {ss:List ByteArray} (hl:len<=cap) (h0:0<len) (hs:len<=ss.length) (hc: ∀i,i<len->W.cell? ⟨b,off+i,none⟩=some (.string (ss.getD i ByteArray.empty))):
  RepP (gOf W).pr W (.slice (some ⟨b,off,none⟩) len cap) (.sl 1 (Fe.strs ((ss.take len).map ZbJ))):=by
 have hn:(Fe.strs ((ss.take len).map ZbJ)).length=len:=by simp [Fe.strs];omega
 have hg: ∀i,i<len->(Fe.strs ((ss.take len).map ZbJ))[i]? =some [.str (ZbJ (ss.getD i ByteArray.empty))]:=fun i hi=>by
  simp only [Fe.strs,Yn,YG,if_pos hi,List.getD,Ya (show i<ss.length by omega)]
  rfl
 refine .sl b off len cap 1 _ (fun i _=> .string (ss.getD i ByteArray.empty)) hn.symm hl ?_ ?_ ?_ ?_
 ·have h1:=hc (len-1) Zo
  have h2:=ZGW h1
  have h3:=ZrY h1
  show off+len*1<=if b<W.heap.size then 4294967296+ZE3 W b else 0
  rw [if_pos h3]
  omega
 ·intro i row hr
  have hi:=List.getElem?_eq_some_iff.1 hr|>.1
  rw [hg i Zo] at hr
  cases hr
  rfl
 ·intro i j hi hj
  obtain rfl:j=0:=by omega
  rw [Nat.mul_one,Nat.add_zero]
  exact hc i hi
 ·intro i row j x hr hx
  have hi:=List.getElem?_eq_some_iff.1 hr|>.1
  rw [hg i Zo] at hr
  cases hr
  match j with
  | 0=>injection hx with hx;subst hx;exact .str _ _ rfl
  | j+1=>simp at hx
def Ztk (b:ByteArray):Fe.Byt (ZbJ b):=by
 intro c hc
 obtain ⟨x,_,rfl⟩:=List.mem_map.1 hc
 exact x.toNat_lt
end Go.Am
end
