/- A part of the proof. -/
import Derived.Test.YtcdpeppblcijfaaGreatDoorXbf
import Derived.Test.YtcdpeppblcijfaaGreatDoorXac
set_option maxRecDepth 1000000
set_option maxHeartbeats 4000000
set_option linter.all false
section
namespace Go.Am.Fe
variable {S:Nat→Option Fn} {Q:List A→List (List C)→Prop}
attribute [local simp] ZbO if_pos if_neg decide_eq_true decide_eq_false List.getElem?_cons_zero List.getElem?_cons_succ ZgF
def First (noms:List (List P)) (s:List Nat) (j:Nat):Prop:= ∃h:j<noms.length,hdS noms[j]=s∧s∉nmL (noms.take j)
theorem First.uniq {noms:List (List P)} {s:List Nat} {i j:Nat} (h1:First noms s i) (h2:First noms s j):i=j:=by
 obtain ⟨a1,a2,a3⟩:=h1
 obtain ⟨b1,b2,b3⟩:=h2
 rcases Nat.lt_trichotomy i j with h|h|h
 ·exact absurd (by rw [←a2];exact List.mem_map_of_mem (List.mem_take_iff_getElem.2 ⟨i,by omega,rfl⟩)) b3
 ·exact h
 ·exact absurd (by rw [←b2];exact List.mem_map_of_mem (List.mem_take_iff_getElem.2 ⟨j,by omega,rfl⟩)) a3
theorem First.mem {noms:List (List P)} {s:List Nat} {j:Nat} (h:First noms s j):s∈nmL noms:=by
 obtain ⟨a1,a2,_⟩:=h;rw [←a2];exact Zvv a1
theorem ZrG (H:Has S) {noms mp mc mf:List (List P)} {s:List Nat} (hn:RowsOf NoR noms) (hQ1:s∉nmL noms→Q [pi (-1)] []) (hQ2: ∀j:Nat,First noms s j→Q [pi j] []):Gives S Zc0 [.agg [.p (.sl 17 noms),.p (.sl 3 mp),.p (.sl 9 mc),.p (.sl 22 mf)],ps s] [] Q:=by
 have g:=hn.len
 refine .code H.ZqL rfl ?_
 simp (disch:=omega)[Zhl]
 refine Lp.rule (fun (j:Nat)=>[(1,.a (ps s)),(2,.a (.one (.ref ⟨true,10002,0⟩))),(5,.a (pi j)),(9999,.objs []),(10002,.a (.agg [.p (.sl 17 noms),.p (.sl 3 mp),.p (.sl 9 mc),.p (.sl 22 mf)]))]) (fun j=>j≤noms.length∧s∉nmL (noms.take j)) (fun j=>noms.length-j) (a₀:=0) rfl ⟨Nat.zero_le _,by simp [nmL]⟩ ?_
 rintro j ⟨k1,k2⟩
 by_cases hj:j<noms.length
 ·have hr:=hn.get hj
  obtain ⟨_,s2,_,_,_,_,_,_,_,_,_,_,_,_,_,_,_,_,e,_⟩:=hr
  have hh:hdS noms[j]=s2:=by rw [e];rfl
  by_cases hs:s2=s
  ·subst hs
   simp (disch:=omega)[e]
   exact hQ2 j ⟨hj,hh,k2⟩
  ·simp (disch:=omega)[e,hs]
   exact RdN.mk (j+1) rfl ⟨hj,by
    rw [List.take_add_one,List.getElem?_eq_getElem hj,Zqv,List.mem_append,not_or]
    exact ⟨k2,by simp [nmL,hh];exact fun h=>hs h.symm⟩⟩ (by omega)
 ·simp (disch:=omega)
  rw [List.take_of_length_le (by omega)] at k2
  exact hQ1 k2
def opq (r:List P):Bool:=match r with
 | _:: .int _ kd::_::_:: .bool fr::_=>(!fr && decide (1≤kd)) && decide (kd≤3)
 | _=>false
theorem ZnT (H:Has S) (HL:S ZgQ=some (.code ZiD)) {noms mp mc mf:List (List P)} {s:List Nat} (hn:RowsOf NoR noms) (hQ1:s∉nmL noms→Q [pb false] []) (hQ2: ∀j:Nat,(h:First noms s j)→Q [pb (opq (noms[j]'h.1))] []):Gives S ZgQ [.agg [.p (.sl 17 noms),.p (.sl 3 mp),.p (.sl 9 mc),.p (.sl 22 mf)],ps s] [] Q:=by
 have g:=hn.len
 refine .code HL rfl ?_
 simp (disch:=omega)[ZiD]
 refine ZrG H hn (fun h=>?_) (fun j h=>?_)
 ·simp (disch:=omega)
  exact hQ1 h
 ·have hj:=h.1
  have hq:=hQ2 j h
  obtain ⟨_,s2,kd,_,_,fr,_,_,_,_,_,_,_,_,_,_,_,_,e,_⟩:=hn.get hj
  rw [e] at hq
  simp only [opq] at hq
  simp (disch:=omega)[e]
  cases fr
  ·by_cases h1:1≤kd
   ·by_cases h3:kd≤3
    ·simp (disch:=omega)[h1,h3,e] at hq⊢
     exact hq
    ·simp (disch:=omega)[h1,h3,e] at hq⊢
     exact hq
   ·simp (disch:=omega)[h1,e] at hq⊢
    exact hq
  ·simp (disch:=omega)[e] at hq⊢
   exact hq
theorem Zng (HL:S ZbI=some (.code Zc6)) {noms mp mc mf:List (List P)} {s:List Nat} (hn:RowsOf NoR noms) (hQ1:s∉nmL noms→Q [.agg [.p (.str []),.p (.int .i64 0),.p (.sl 1 []),.p (.bool false),.p (.bool false),.p (.sl 6 []),.p (.sl 3 []),.p (.int .i64 0),.p (.str []),.p (.int .i64 0),.p (.int .i64 0),.p (.str []),.p (.int .i64 0),.p (.sl 4 []),.p (.sl 4 []),.p (.sl 10 []),.p (.int .i64 0)],pi 0,pb false] []) (hQ2: ∀j:Nat,(h:First noms s j)→Q [.agg ((noms[j]'h.1).map C.p),pi j,pb true] []):Gives S ZbI [.agg [.p (.sl 17 noms),.p (.sl 3 mp),.p (.sl 9 mc),.p (.sl 22 mf)],ps s] [] Q:=by
 have g:=hn.len
 refine .code HL rfl ?_
 simp (disch:=omega)[Zc6]
 refine Lp.rule (fun (j:Nat)=>[(1,.a (ps s)),(4,.a (.one (.ref ⟨true,10004,0⟩))),(10,.a (.one (.p (.sl 17 noms)))),(11,.a (pi noms.length)),(12,.a (pi j)),(9999,.objs []),(10004,.a (.agg [.p (.str []),.p (.int .i64 0),.tip 1 [],.p (.bool false),.p (.bool false),.tip 6 [],.tip 3 [],.p (.int .i64 0),.p (.str []),.p (.int .i64 0),.p (.int .i64 0),.p (.str []),.p (.int .i64 0),.tip 4 [],.tip 4 [],.tip 10 [],.p (.int .i64 0)]))]) (fun j=>j≤noms.length∧s∉nmL (noms.take j)) (fun j=>noms.length-j) (a₀:=0) rfl ⟨Nat.zero_le _,by simp [nmL]⟩ ?_
 rintro j ⟨k1,k2⟩
 by_cases hj:j<noms.length
 ·have hr:=hn.get hj
  obtain ⟨_,s2,_,_,_,_,_,_,_,_,_,_,_,_,_,_,_,_,e,_⟩:=hr
  have hh:hdS noms[j]=s2:=by rw [e];rfl
  by_cases hs:s2=s
  ·subst hs
   have hq:=hQ2 j ⟨hj,hh,k2⟩
   rw [e] at hq
   simp (disch:=omega)[e]
   simpa using hq
  ·simp (disch:=omega)[e,hs]
   exact RdN.mk (j+1) rfl ⟨hj,by
    rw [List.take_add_one,List.getElem?_eq_getElem hj,Zqv,List.mem_append,not_or]
    exact ⟨k2,by simp [nmL,hh];exact fun h=>hs h.symm⟩⟩ (by omega)
 ·simp (disch:=omega)
  rw [List.take_of_length_le (by omega)] at k2
  exact hQ1 k2
theorem ZoF (HL:S Zd2=some (.code Zff)) (HT:S ZbI=some (.code Zc6)) {noms mp mc mf:List (List P)} {s:List Nat} (hn:RowsOf NoR noms) (hQ1:s∉nmL noms→Q [pb false] []) (hQ2: ∀j:Nat,(h:First noms s j)→Q [pb (opq (noms[j]'h.1))] []):Gives S Zd2 [.agg [.p (.sl 17 noms),.p (.sl 3 mp),.p (.sl 9 mc),.p (.sl 22 mf)],ps s] [] Q:=by
 have g:=hn.len
 refine .code HL rfl ?_
 simp (disch:=omega)[Zff]
 refine Zng HT hn (fun h=>?_) (fun j h=>?_)
 ·simp (disch:=omega)
  exact hQ1 h
 ·have hj:=h.1
  have hq:=hQ2 j h
  obtain ⟨_,s2,kd,_,_,fr,_,_,_,_,_,_,_,_,_,_,_,_,e,_⟩:=hn.get hj
  rw [e] at hq⊢
  simp only [opq] at hq
  simp (disch:=omega)
  cases fr
  ·by_cases h1:1≤kd
   ·by_cases h3:kd≤3
    ·simp (disch:=omega)[h1,h3] at hq⊢
     exact hq
    ·simp (disch:=omega)[h1,h3] at hq⊢
     exact hq
   ·simp (disch:=omega)[h1] at hq⊢
    exact hq
  ·simp (disch:=omega) at hq⊢
   exact hq
theorem Zjo (H:Has S) (HR:HasPr S) (HL:S Zdt=some (.code Zdz)) (HI:S Zd2=some (.code Zff)) (HT:S ZbI=some (.code Zc6)) (HU:S ZgQ=some (.code ZiD))
  (HA: ∀Q:List A→List (List C)→Prop,Q [pb true] []→Gives S Zd3 [] [] Q) {src name:List Nat} (hb:Byt src) (hQ:Q [pb true] []):Gives S Zdt [ps src,ps name] [] Q:=by
 refine .code HL rfl ?_
 simp (disch:=omega)[Zdz]
 refine ZuG H HR (by unfold ZeA;omega) hb fun noms pro cfs fns ok r1 r2 r3 r4=>?_
 cases ok
 ·simp (disch:=omega)
  refine HA _ ?_
  simp (disch:=omega)
  exact hQ
 ·simp (disch:=omega)
  refine ZoF HI HT r1 (fun h=>?_) (fun j h=>?_)
  ·simp (disch:=omega)
   refine ZnT H HU r1 (fun _=>?_) (fun i hi=>absurd hi.mem h)
   simp (disch:=omega)
   refine HA _ ?_
   simp (disch:=omega)
   exact hQ
  ·simp (disch:=omega)
   refine ZnT H HU r1 (fun h'=>absurd h.mem h') (fun i hi=>?_)
   have:=h.uniq hi
   subst this
   simp (disch:=omega)
   refine HA _ ?_
   simp (disch:=omega)
   exact hQ
end Go.Am.Fe
end
