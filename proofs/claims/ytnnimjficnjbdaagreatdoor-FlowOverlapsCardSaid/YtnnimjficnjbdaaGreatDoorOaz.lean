/- Part. -/
import Derived.Test.YtnnimjficnjbdaaGreatDoorOay
import GoSem.ClaimFn
set_option maxRecDepth 999999
set_option maxHeartbeats 0
set_option linter.all false
section
namespace Go.Clo
open Go.Cm
def Ld (P:Program) (f:Nat):List Nat:=(P.funcs[f]?).elim [] P.leadsTo
def clo (L:Nat->List Nat):Nat->List Nat->List Nat->List Nat
 | 0,_,seen=>seen.reverse
 | _+1,[],seen=>seen.reverse
 | n+1,f::todo,seen=>if seen.contains f then clo L n todo seen else clo L n (L f++todo) (f::seen)
theorem ZM0 (P:Program): ∀(n:Nat) (todo seen:List Nat),P.closureVia n todo seen=clo (Ld P) n todo seen
 | 0,_,_=>by simp [Program.closureVia,clo]
 | n+1,[],seen=>by simp [Program.closureVia,clo]
 | n+1,f::todo,seen=>by
   simp only [Program.closureVia,clo]
   rw [ZM0 P n todo seen,ZM0 P n _ (f::seen)]
   rfl
def clo2 (L:Nat->List Nat):Nat->List Nat->T Unit->List Nat->List Nat
 | 0,_,_,seen=>seen.reverse
 | _+1,[],_,seen=>seen.reverse
 | n+1,f::todo,st,seen=>match st.get f with
   | some _=>clo2 L n todo st seen
   | none=>clo2 L n (L f++todo) (st.set f ()) (f::seen)
theorem ZMh (L:Nat->List Nat): ∀(n:Nat) (todo:List Nat) (st:T Unit) (seen:List Nat),(∀f,(st.get f).isSome=seen.contains f)->clo2 L n todo st seen=clo L n todo seen
 | 0,_,_,_,_=>by simp [clo,clo2]
 | n+1,[],_,_,_=>by simp [clo,clo2]
 | n+1,f::todo,st,seen,h=>by
   simp only [clo,clo2]
   have hf:=h f
   cases hs:st.get f with
   | some u=>
     rw [hs] at hf
     have hf:seen.contains f=true:=hf.symm
     rw [if_pos hf]
     exact ZMh L n todo st seen h
   | none=>
     rw [hs] at hf
     have hf:seen.contains f=false:=hf.symm
     rw [if_neg (by rw [hf];decide)]
     refine ZMh L n _ _ _ fun g=>?_
     rw [T.get_set,List.contains_cons]
     by_cases hg:g=f
     · subst hg;simp
     · rw [if_neg hg,h g]
       simp [hg]
theorem ZNu {α β:Type} (a:Array α) (F:α->β) (d:β):a.toList.map F=(List.range a.size).map fun i=>(a[i]?).elim d F:=by
 apply List.ext_getElem?
 intro i
 simp only [List.getElem?_map,Array.getElem?_toList]
 by_cases hi:i<a.size
 ·rw [List.getElem?_range hi,Array.getElem?_eq_getElem hi];simp [hi]
 ·rw [Array.getElem?_eq_none Zo,List.getElem?_eq_none Ze];rfl
theorem ZMX (P:Program) (tab:List (List Nat)) (f n:Nat) (out:List Nat) (hs:P.funcs.size=tab.length) (ht:(List.range tab.length).map (Ld P)=tab) (M:Nat->List Nat) (hM: ∀f,M f=tab.getD f [])
  (hn:1+(tab.map fun l=>l.length+1).sum=n) (ho:clo2 M n [f] .nil []=out):P.closure f=out:=by
 have hL:Ld P=M:=funext fun g=>by
  rw [hM]
  by_cases hg:g<tab.length
  ·have:=congrArg (fun l=>l[g]?) ht
   simp only [List.getElem?_map,List.getElem?_range hg,Option.map_some] at this
   rw [List.getD_eq_getElem?_getD,<-this];rfl
  ·unfold Ld
   rw [Array.getElem?_eq_none Zo,List.getD_eq_getElem?_getD,List.getElem?_eq_none Zo];rfl
 have hfuel:1+(P.funcs.toList.map fun g=>(P.leadsTo g).length+1).sum=n:=by
  rw [<-hn,ZNu P.funcs (fun g=>(P.leadsTo g).length+1) 1,hs]
  congr 2
  conv=>rhs;rw [<-ht]
  rw [List.map_map]
  refine List.map_congr_left fun i _=>?_
  simp only [Function.comp,Ld]
  cases P.funcs[i]? <;>rfl
 unfold Program.closure
 rw [hfuel,ZM0,hL,<-ho]
 exact (ZMh M n [f] .nil [] fun g=>by simp [T.get_nil]).symm
def ZMS:Nat->List (List Nat)->T (List Nat)
 | _,[]=> .nil
 | k,r::l=>(ZMS (k+1) l).set k r
theorem ZKm: ∀(l:List (List Nat)) (k f:Nat),((ZMS k l).get f).getD []=if f<k then [] else l.getD (f-k) []
 | [],k,f=>by simp [ZMS,T.get_nil]
 | r::l,k,f=>by
   unfold ZMS
   rw [T.get_set]
   by_cases h:f=k
   · subst h;simp
   · rw [if_neg h,ZKm l (k+1) f]
     by_cases h1:f<k
     · rw [if_pos h1,if_pos Zo]
     · rw [if_neg h1,if_neg Zo,show f-k=(f-(k+1))+1 by omega]
       simp
end Go.Clo
end
