/- Part. -/
import Derived.Lib.SlicesCompact
set_option maxRecDepth 999999
set_option maxHeartbeats 0
set_option linter.all false
section
namespace Go.Proofs
open Go.Lib
def insN (x:Int):List Int->List Int
 | []=>[x]
 | y::l=>if y<x then y::insN x l else if y=x then y::l else x::y::l
def ZgC (l:List Int):List Int:=l.foldl (fun out x=>insN x out) []
theorem ZkU {x z:Int}: ∀{l:List Int},z∈insN x l↔z=x∨z∈l
 | []=>by simp [insN]
 | y::l=>by
   unfold insN
   split
   · rw [List.mem_cons,ZkU,List.mem_cons]
     constructor
     · rintro (h|h|h)<;>simp [h]
     · rintro (h|h|h)<;>simp [h]
   · split
     · rename_i h;subst h;simp
     · simp
theorem ZhW {x:Int}: ∀{l:List Int},l.Pairwise (· < ·)->(insN x l).Pairwise (· < ·)
 | [],_=>by simp [insN]
 | y::l,h=>by
   rw [List.pairwise_cons] at h
   unfold insN
   split
   · rename_i hy
     rw [List.pairwise_cons]
     refine ⟨fun z hz=>?_,ZhW h.2⟩
     rcases ZkU.1 hz with rfl|hz
     · exact hy
     · exact h.1 z hz
   · split
     · rw [List.pairwise_cons];exact h
     · rw [List.pairwise_cons,List.pairwise_cons]
       refine ⟨fun z hz=>?_,h⟩
       rcases List.mem_cons.1 hz with rfl|hz
       · omega
       · have:=h.1 z hz;omega
theorem Zga (l:List Int):(ZgC l).Pairwise (· < ·)/\ ∀z,z∈ZgC l↔z∈l:=by
 have key: ∀(l acc:List Int),acc.Pairwise (· < ·)->(l.foldl (fun out x=>insN x out) acc).Pairwise (· < ·)/\ ∀z,z∈l.foldl (fun out x=>insN x out) acc↔z∈l∨z∈acc:=by
   intro l
   induction l with
   | nil=>intro acc h;exact ⟨h,by simp⟩
   | cons x l ih=>
     intro acc h
     obtain ⟨h1,h2⟩:=ih (insN x acc) (ZhW h)
     refine ⟨h1,fun z=>?_⟩
     rw [List.foldl_cons,h2,ZkU,List.mem_cons]
     constructor
     · rintro (h|h|h)<;>simp [h]
     · rintro ((h|h)|h)<;>simp [h]
 obtain ⟨h1,h2⟩:=key l [] .nil
 exact ⟨h1,fun z=>by rw [ZgC,h2];simp⟩
theorem ZjK: ∀{a b:List Int},a.Pairwise (· < ·)->b.Pairwise (· < ·)->(∀z,z∈a↔z∈b)->a=b
 | [],[],_,_,_=>rfl
 | [],y::b,_,_,h=>absurd ((h y).2 (by simp)) (by simp)
 | x::a,[],_,_,h=>absurd ((h x).1 (by simp)) (by simp)
 | x::a,y::b,ha,hb,h=>by
   rw [List.pairwise_cons] at ha hb
   have hxy:x=y:=by
     rcases List.mem_cons.1 ((h x).1 (by simp)) with e|e
     · exact e
     · rcases List.mem_cons.1 ((h y).2 (by simp)) with e'|e'
       · exact e'.symm
       · have:=hb.1 x e;have:=ha.1 y e';omega
   subst hxy
   congr 1
   refine ZjK ha.2 hb.2 fun z=>⟨fun hz=>?_,fun hz=>?_⟩
   · rcases List.mem_cons.1 ((h z).1 (List.mem_cons_of_mem _ hz)) with e|e
     · have:=ha.1 z hz;omega
     · exact e
   · rcases List.mem_cons.1 ((h z).2 (List.mem_cons_of_mem _ hz)) with e|e
     · have:=hb.1 z hz;omega
     · exact e
theorem ZgZ (d:Array Int) (hd: ∀i j,i<j->j<d.size->d[i]! <=d[j]!): ∀m,m<=d.size->
   (compactUpTo d m).Pairwise (· < ·)/\(∀z,z∈compactUpTo d m↔ ∃j,j<m/\z=d[j]!)
 | 0,_=>by simp [compactUpTo]
 | m+1,hm=>by
   obtain ⟨h1,h2⟩:=ZgZ d hd m (by omega)
   rw [compactUpTo_succ]
   by_cases hk:keeps d m=true
   · rw [if_pos hk]
     constructor
     · rw [List.pairwise_append]
       refine ⟨h1,by simp,fun a ha b hb=>?_⟩
       rw [List.mem_singleton] at hb
       subst hb
       obtain ⟨j,hj,rfl⟩:=(h2 a).1 ha
       have hk':m=0∨d[m]! ≠d[m-1]! :=by simpa [keeps] using hk
       have l1:=hd (m-1) m (by omega) (by omega)
       rcases Nat.lt_or_ge j (m-1) with h|h
       · have:=hd j (m-1) h (by omega)
         omega
       · have:j=m-1:=by omega
         subst this
         omega
     · intro z
       rw [List.mem_append,h2,List.mem_singleton]
       constructor
       · rintro (⟨j,hj,e⟩|e)
         · exact ⟨j,by omega,e⟩
         · exact ⟨m,by omega,e⟩
       · rintro ⟨j,hj,e⟩
         rcases Nat.lt_or_ge j m with h|h
         · exact .inl ⟨j,h,e⟩
         · obtain rfl:j=m:=by omega
           exact .inr e
   · rw [if_neg hk,List.append_nil]
     refine ⟨h1,fun z=>?_⟩
     rw [h2]
     have hk':m≠0/\d[m]! =d[m-1]! :=by
       have:keeps d m=false:=by simpa using hk
       unfold keeps at this
       rw [decide_eq_false_iff_not,not_or,Decidable.not_not] at this
       exact this
     constructor
     · rintro ⟨j,hj,e⟩;exact ⟨j,by omega,e⟩
     · rintro ⟨j,hj,e⟩
       rcases Nat.lt_or_ge j m with h|h
       · exact ⟨j,h,e⟩
       · obtain rfl:j=m:=by omega
         exact ⟨j-1,by omega,e.trans hk'.2⟩
def once (zs:List Int):List Int:=Lib.compact (zs.mergeSort fun x y=>decide (x<=y))
theorem ZvF (l:List Int):compact (l.mergeSort fun x y=>decide (x<=y))=ZgC l:=by
 obtain ⟨ys,hy⟩: ∃ys,ys=l.mergeSort fun x y=>decide (x<=y):=⟨_,rfl⟩
 rw [<-hy]
 have hs:ys.Pairwise (· <= ·):=by
  have:=List.pairwise_mergeSort (le:=fun x y:Int=>decide (x<=y)) (fun a b c=>by simp;omega) (fun a b=>by simp;omega) l
  rw [<-hy] at this
  exact this.imp fun h=>by simpa using h
 have hm: ∀z,z∈ys↔z∈l:=fun z=>by rw [hy];exact (List.mergeSort_perm l _).mem_iff
 have hd: ∀i j,i<j->j<ys.toArray.size->ys.toArray[i]! <=ys.toArray[j]! :=fun i j hij hj=>by
  have hj':j<ys.length:=by simpa using hj
  have:=List.pairwise_iff_getElem.1 hs i j (by omega) hj' hij
  rw [getElem!_pos ys.toArray i (by simp;omega),getElem!_pos ys.toArray j hj]
  simpa using this
 obtain ⟨h1,h2⟩:=ZgZ ys.toArray hd ys.length (by simp)
 obtain ⟨n1,n2⟩:=Zga l
 refine ZjK h1 n1 fun z=>?_
 rw [n2,<-hm]
 show z∈compactUpTo ys.toArray ys.length↔_
 rw [h2]
 constructor
 ·rintro ⟨j,hj,rfl⟩
  rw [getElem!_pos ys.toArray j (by simpa using hj)]
  simp
 ·intro hz
  obtain ⟨j,hj,e⟩:=List.getElem_of_mem hz
  exact ⟨j,hj,by rw [getElem!_pos ys.toArray j (by simpa using hj)];simpa using e.symm⟩
end Go.Proofs
namespace Go.Proofs
end Go.Proofs
namespace Go.Proofs
end Go.Proofs
namespace Go.Am
end Go.Am
end
