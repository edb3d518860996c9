/- Part. -/
import Derived.Test.YtcdjoaepciegnaaGreatDoorUbf
import Derived.Test.YtcdjoaepciegnaaGreatDoorUab
import Derived.WalkKit
import Derived.BigCall
import Derived.Sort.OwnSortedInts
import Derived.Lib.RowBridge
set_option maxRecDepth 999999
set_option maxHeartbeats 0
set_option linter.all false
section
namespace Go.Proofs
open Go.RowKit Go.Sort Go.Lib
set_option maxHeartbeats 4000000
set_option maxRecDepth 1000000
theorem ZEB (zs:List Int):(once zs).length<=zs.length:=by
 have:=compact_length_le (zs.mergeSort fun x y=>decide (x<=y))
 simpa [once] using this
theorem Tryz.once_calls (b cap:Nat) (w:World) (n m:Nat) (Q1 Q2:World->Prop) (h1:Calls Tryz.prog 85 #[.slice (some ⟨b,0,none⟩) n cap] w fun e w'=>e= .returned (.tuple #[])/\Q1 w')
  (h2: ∀w1,Q1 w1->Calls Tryz.prog 86 #[.slice (some ⟨b,0,none⟩) n cap] w1 fun e w'=>e= .returned (.slice (some ⟨b,0,none⟩) m cap)/\Q2 w'):
  Calls Tryz.prog 39 #[.slice (some ⟨b,0,none⟩) n cap] w fun e w'=>e= .returned (.slice (some ⟨b,0,none⟩) m cap)/\Q2 w':=by
 have e85: ∀args w,(callFunc 85 args).run Tryz.prog w= .ok (.enter 85 args) w:=enters_of Tryz.func85 (by kernel_rfl) rfl
 have e86: ∀args w,(callFunc 86 args).run Tryz.prog w= .ok (.enter 86 args) w:=enters_of Tryz.func86 (by kernel_rfl) rfl
 go_enter Tryz.func39,Tryz.ntmps39
 go_wp2_with (go_at_fn 85;refine h1.mono ?_)
 rintro e w1 ⟨rfl,q1⟩
 go_wp2_with (go_at_fn 86;refine (h2 w1 q1).mono ?_)
 rintro e w2 ⟨rfl,q2⟩
 go_wp2
 go_ret
 exact ⟨rfl,q2⟩
theorem Tryz.once_cells (b cap:Nat) (cur:Array Value) (t:TypeId) (zs:List Int) (w:World) (hb:w.heap[b]? =some (.cells cur t (0,0))) (ht:cur.toList.take zs.length=zs.map (Value.int .i64)) (hc:zs.length<=cap)
  (hs:zs.length<=cur.size) (hz:zs.length<4611686018427387904):
  Calls Tryz.prog 39 #[.slice (some ⟨b,0,none⟩) zs.length cap] w fun e w'=>e= .returned (.slice (some ⟨b,0,none⟩) (once zs).length cap)/\w.grownBy w' (some b)/\
   ∃cur',w'.heap[b]? =some (.cells cur' t (0,0))/\cur'.size=cur.size/\cur'.toList.take zs.length=(once zs++List.replicate (zs.length-(once zs).length) 0).map (Value.int .i64):=by
 have hbk:b<w.heap.size:=(Array.getElem?_eq_some_iff.1 hb).1
 obtain ⟨ys,hy⟩: ∃ys,ys=zs.mergeSort fun x y=>decide (x<=y):=⟨_,rfl⟩
 have hyl:ys.length=zs.length:=by rw [hy];simp
 have c1:=Tryz.slices_Sort_int b 0 cap zs w (holds_of_blockI hb ht) hbk hz
 rw [<-hy] at c1
 have ho:once zs=Lib.compact ys:=by rw [hy];rfl
 have hol:=ZEB zs
 obtain ⟨os1,ho1⟩: ∃ts,ts=once zs++List.replicate (zs.length-(once zs).length) 0:=⟨_,rfl⟩
 have hol1:os1.length=zs.length:=by rw [ho1];simp;omega
 rw [<-ho1]
 refine Tryz.once_calls b cap w _ _ _ _ c1 fun w1 hq=>?_
 obtain ⟨n,os,hw1⟩:=hq
 have hb1:w1.heap[b]? =some (.cells (putCells (Value.int .i64) 0 ys.toArray cur) t (0,0)):=by rw [hw1];exact heap_sortedI _ hb
 have g1:w.grownBy w1 (some b):=by rw [hw1];exact grownBy_sortedI _
 have t1:(putCells (Value.int .i64) 0 ys.toArray cur).toList.take ys.length=ys.map (Value.int .i64):=take_putCellsI cur ys (by omega)
 have s1:(putCells (Value.int .i64) 0 ys.toArray cur).size=cur.size:=by simp [putCells]
 have c2:=Tryz.slices_Compact_int b 0 cap ys w1 (holds_of_blockI hb1 t1) (by omega) (by omega)
 rw [<-ho,hyl,<-ho1] at c2
 refine c2.mono ?_
 rintro e w2 ⟨rfl,q,hw2⟩
 have e2:w2=grow (putRow (Value.int .i64) (Sort.ahead w1 q) b 0 os1.toArray) #[]:=by rw [hw2];simp only [grow,Array.append_empty]
 refine ⟨rfl,?_,_,by rw [e2];exact heap_sortedI _ hb1,by simp [putCells],by rw [<-hol1];exact take_putCellsI _ os1 (by simp [putCells];omega)⟩
 have g2:w1.grownBy w2 (some b):=by rw [e2];exact grownBy_sortedI _
 exact ⟨g2.os.trans g1.os,g2.tape.trans g1.tape,g2.output.trans g1.output,Nat.le_trans g1.size g2.size,fun k hk hne=>(g2.block k (Nat.lt_of_lt_of_le hk g1.size) hne).trans (g1.block k hk hne)⟩
theorem Tryz.once_none (a:Option Addr) (cap:Nat) (w:World):Calls Tryz.prog 39 #[.slice a 0 cap] w fun e w'=>e= .returned (.slice a 0 cap)/\w'=w:=by
 have e85: ∀args w,(callFunc 85 args).run Tryz.prog w= .ok (.enter 85 args) w:=enters_of Tryz.func85 (by kernel_rfl) rfl
 have e86: ∀args w,(callFunc 86 args).run Tryz.prog w= .ok (.enter 86 args) w:=enters_of Tryz.func86 (by kernel_rfl) rfl
 go_enter Tryz.func39,Tryz.ntmps39
 go_wp2_with (go_at_fn 85;refine (Tryz.slices_Sort_int_none a cap w).mono ?_)
 rintro e w' ⟨rfl,rfl⟩
 go_wp2_with (go_at_fn 86;refine (Tryz.slices_Compact_int_empty a cap _).mono ?_)
 rintro e w' ⟨rfl,rfl⟩
 go_wp2
 go_ret
 exact ⟨rfl,rfl⟩
end Go.Proofs
end
