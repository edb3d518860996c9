/- Part. -/
import Derived.Lib.SlicesCompact
set_option maxRecDepth 999999
set_option maxHeartbeats 0
set_option linter.all false
section
namespace Go.Proofs
open Go.Lib
def insN (x:Int):List Int->List Int
 | []=>[x]
 | y::l=>if y<x then y::insN x l else if y=x then y::l else x::y::l
def ZDF (l:List Int):List Int:=l.foldl (fun out x=>insN x out) []
theorem ZGL {x z:Int}: ∀{l:List Int},z∈insN x l↔z=x∨z∈l
 | []=>by simp [insN]
 | y::l=>by
   unfold insN
   split
   · rw [List.mem_cons,ZGL,List.mem_cons]
     constructor
     · rintro (h|h|h)<;>simp [h]
     · rintro (h|h|h)<;>simp [h]
   · split
     · rename_i h;subst h;simp
     · simp
theorem ZFv {x:Int}: ∀{l:List Int},l.Pairwise (· < ·)->(insN x l).Pairwise (· < ·)
 | [],_=>by simp [insN]
 | y::l,h=>by
   rw [List.pairwise_cons] at h
   unfold insN
   split
   · rename_i hy
     rw [List.pairwise_cons]
     refine ⟨fun z hz=>?_,ZFv h.2⟩
     rcases ZGL.1 hz with rfl|hz
     · exact hy
     · exact h.1 z hz
   · split
     · rw [List.pairwise_cons];exact h
     · rw [List.pairwise_cons,List.pairwise_cons]
       refine ⟨fun z hz=>?_,h⟩
       rcases List.mem_cons.1 hz with rfl|hz
       · omega
       · have:=h.1 z hz;omega
theorem ZGb (l:List Int):(ZDF l).Pairwise (· < ·)/\ ∀z,z∈ZDF l↔z∈l:=by
 have key: ∀(l acc:List Int),acc.Pairwise (· < ·)->(l.foldl (fun out x=>insN x out) acc).Pairwise (· < ·)/\ ∀z,z∈l.foldl (fun out x=>insN x out) acc↔z∈l∨z∈acc:=by
   intro l
   induction l with
   | nil=>intro acc h;exact ⟨h,by simp⟩
   | cons x l ih=>
     intro acc h
     obtain ⟨h1,h2⟩:=ih (insN x acc) (ZFv h)
     refine ⟨h1,fun z=>?_⟩
     rw [List.foldl_cons,h2,ZGL,List.mem_cons]
     constructor
     · rintro (h|h|h)<;>simp [h]
     · rintro ((h|h)|h)<;>simp [h]
 obtain ⟨h1,h2⟩:=key l [] .nil
 exact ⟨h1,fun z=>by rw [ZDF,h2];simp⟩
theorem ZFS: ∀{a b:List Int},a.Pairwise (· < ·)->b.Pairwise (· < ·)->(∀z,z∈a↔z∈b)->a=b
 | [],[],_,_,_=>rfl
 | [],y::b,_,_,h=>absurd ((h y).2 (by simp)) (by simp)
 | x::a,[],_,_,h=>absurd ((h x).1 (by simp)) (by simp)
 | x::a,y::b,ha,hb,h=>by
   rw [List.pairwise_cons] at ha hb
   have hxy:x=y:=by
     rcases List.mem_cons.1 ((h x).1 (by simp)) with e|e
     · exact e
     · rcases List.mem_cons.1 ((h y).2 (by simp)) with e'|e'
       · exact e'.symm
       · have:=hb.1 x e;have:=ha.1 y e';omega
   subst hxy
   congr 1
   refine ZFS ha.2 hb.2 fun z=>⟨fun hz=>?_,fun hz=>?_⟩
   · rcases List.mem_cons.1 ((h z).1 (List.mem_cons_of_mem _ hz)) with e|e
     · have:=ha.1 z hz;omega
     · exact e
   · rcases List.mem_cons.1 ((h z).2 (List.mem_cons_of_mem _ hz)) with e|e
     · have:=hb.1 z hz;omega
     · exact e
theorem ZE2 (d:Array Int) (hd: ∀i j,i<j->j<d.size->d[i]! <=d[j]!): ∀m,m<=d.size->
   (compactUpTo d m).Pairwise (· < ·)/\(∀z,z∈compactUpTo d m↔ ∃j,j<m/\z=d[j]!)
 | 0,_=>by simp [compactUpTo]
 | m+1,hm=>by
   obtain ⟨h1,h2⟩:=ZE2 d hd m (by omega)
   rw [compactUpTo_succ]
   by_cases hk:keeps d m=true
   · rw [if_pos hk]
     constructor
     · rw [List.pairwise_append]
       refine ⟨h1,by simp,fun a ha b hb=>?_⟩
       rw [List.mem_singleton] at hb
       subst hb
       obtain ⟨j,hj,rfl⟩:=(h2 a).1 ha
       have hk':m=0∨d[m]! ≠d[m-1]! :=by simpa [keeps] using hk
       have l1:=hd (m-1) m (by omega) (by omega)
       rcases Nat.lt_or_ge j (m-1) with h|h
       · have:=hd j (m-1) h (by omega)
         omega
       · have:j=m-1:=by omega
         subst this
         omega
     · intro z
       rw [List.mem_append,h2,List.mem_singleton]
       constructor
       · rintro (⟨j,hj,e⟩|e)
         · exact ⟨j,by omega,e⟩
         · exact ⟨m,by omega,e⟩
       · rintro ⟨j,hj,e⟩
         rcases Nat.lt_or_ge j m with h|h
         · exact .inl ⟨j,h,e⟩
         · obtain rfl:j=m:=by omega
           exact .inr e
   · rw [if_neg hk,List.append_nil]
     refine ⟨h1,fun z=>?_⟩
     rw [h2]
     have hk':m≠0/\d[m]! =d[m-1]! :=by
       have:keeps d m=false:=by simpa using hk
       unfold keeps at this
       rw [decide_eq_false_iff_not,not_or,Decidable.not_not] at this
       exact this
     constructor
     · rintro ⟨j,hj,e⟩;exact ⟨j,by omega,e⟩
     · rintro ⟨j,hj,e⟩
       rcases Nat.lt_or_ge j m with h|h
       · exact ⟨j,h,e⟩
       · obtain rfl:j=m:=by omega
         exact ⟨j-1,by omega,e.trans hk'.2⟩
def once (zs:List Int):List Int:=Lib.compact (zs.mergeSort fun x y=>decide (x<=y))
theorem ZII (l:List Int):compact (l.mergeSort fun x y=>decide (x<=y))=ZDF l:=by
 obtain ⟨ys,hy⟩: ∃ys,ys=l.mergeSort fun x y=>decide (x<=y):=⟨_,rfl⟩
 rw [<-hy]
 have hs:ys.Pairwise (· <= ·):=by
  have:=List.pairwise_mergeSort (le:=fun x y:Int=>decide (x<=y)) (fun a b c=>by simp;omega) (fun a b=>by simp;omega) l
  rw [<-hy] at this
  exact this.imp fun h=>by simpa using h
 have hm: ∀z,z∈ys↔z∈l:=fun z=>by rw [hy];exact (List.mergeSort_perm l _).mem_iff
 have hd: ∀i j,i<j->j<ys.toArray.size->ys.toArray[i]! <=ys.toArray[j]! :=fun i j hij hj=>by
  have hj':j<ys.length:=by simpa using hj
  have:=List.pairwise_iff_getElem.1 hs i j (by omega) hj' hij
  rw [getElem!_pos ys.toArray i (by simp;omega),getElem!_pos ys.toArray j hj]
  simpa using this
 obtain ⟨h1,h2⟩:=ZE2 ys.toArray hd ys.length (by simp)
 obtain ⟨n1,n2⟩:=ZGb l
 refine ZFS h1 n1 fun z=>?_
 rw [n2,<-hm]
 show z∈compactUpTo ys.toArray ys.length↔_
 rw [h2]
 constructor
 ·rintro ⟨j,hj,rfl⟩
  rw [getElem!_pos ys.toArray j (by simpa using hj)]
  simp
 ·intro hz
  obtain ⟨j,hj,e⟩:=List.getElem_of_mem hz
  exact ⟨j,hj,by rw [getElem!_pos ys.toArray j (by simpa using hj)];simpa using e.symm⟩
end Go.Proofs
namespace Go.Proofs
theorem ZF0 {l:List Int} {x:Int}:ZDF (l++[x])=insN x (ZDF l):=by simp [ZDF,List.foldl_append]
theorem ZED {x:Int}: ∀{l:List Int},(insN x l).length<=l.length+1
 | []=>by simp [insN]
 | y::l=>by
   have:=ZED (x:=x) (l:=l)
   unfold insN
   split
   · simp;omega
   · split<;>simp
theorem ZDV (l:List Int):(ZDF l).length<=l.length:=by
 have key: ∀(l acc:List Int),(l.foldl (fun out x=>insN x out) acc).length<=acc.length+l.length:=by
   intro l
   induction l with
   | nil=>intro acc;simp
   | cons x l ih=>
     intro acc
     have h1:=ih (insN x acc)
     have h2:=ZED (x:=x) (l:=acc)
     rw [List.foldl_cons,List.length_cons]
     omega
 have:=key l []
 simpa [ZDF] using this
theorem ZH6 {x:Int}: ∀{l:List Int} {k:Nat},k<=l.length->(∀i (h:i<l.length),i<k->l[i]<x)->(∀h:k<l.length,x<l[k])->insN x l=l.take k++x::l.drop k
 | [],k,hk,_,_=>by simp [insN]
 | y::l,0,_,_,h=>by
   have:=h (by simp)
   simp only [List.getElem_cons_zero] at this
   unfold insN
   rw [if_neg (by omega),if_neg (by omega)];rfl
 | y::l,k+1,hk,h1,h2=>by
   have h0:=h1 0 (by simp) (by omega)
   simp only [List.getElem_cons_zero] at h0
   unfold insN
   rw [if_pos h0,ZH6 (l:=l) (k:=k) (by simpa using hk) (fun i hi hik=>by have:=h1 (i+1) (by simpa using hi) (by omega);simpa using this) (fun h=>by have:=h2 (by simpa using h);simpa using this)]
   rfl
theorem ZF4 {x:Int}: ∀{l:List Int} {k:Nat} (hk:k<l.length),(∀i (h:i<l.length),i<k->l[i]<x)->l[k]=x->insN x l=l
 | y::l,0,_,_,h=>by
   simp only [List.getElem_cons_zero] at h
   unfold insN
   rw [if_neg (by omega),if_pos h]
 | y::l,k+1,hk,h1,h2=>by
   have h0:=h1 0 (by simp) (by omega)
   simp only [List.getElem_cons_zero] at h0
   unfold insN
   rw [if_pos h0,ZF4 (l:=l) (k:=k) (by simpa using hk) (fun i hi hik=>by have:=h1 (i+1) (by simpa using hi) (by omega);simpa using this) (by simpa using h2)]
end Go.Proofs
namespace Go.Proofs
def ZGe:List Int:=[0,15,1,1,0,0,33,0,9,11,25,27,9,19,471,471,1,64,192,194,0,0]
end Go.Proofs
namespace Go.Am
def ZIc (op:Int):Int:=if 0<=op/\op<22 then Go.Proofs.ZGe.getD op.toNat 0 else 0
end Go.Am
end
