/- Part. -/
import Derived.Test.YtcdjoaepciegnaaGreatDoorUab
import Derived.Test.YtcdjoaepciegnaaGreatDoorProg
import Derived.WalkKit
import Derived.BigCall
import Derived.Laws.Tables
set_option maxRecDepth 999999
set_option maxHeartbeats 0
set_option linter.all false
section
namespace Go.Proofs
open Go.RowKit
set_option maxHeartbeats 4000000
set_option maxRecDepth 1000000
def ZGr:List Value:=[.string ⟨#[]⟩,.int .i64 0,.string ⟨#[]⟩,.string ⟨#[99,111,110,115,116]⟩,.int .i64 15,.string ⟨#[]⟩,.string ⟨#[99,111,112,121]⟩,.int .i64 1,.string ⟨#[114]⟩,.string ⟨#[109,111,118,101]⟩,.int .i64 1,.string ⟨#[99]⟩,.string ⟨#[115,101,116]⟩,.int .i64 0,.string ⟨#[105,99]⟩,.string ⟨#[100,114,111,112]⟩,.int .i64 0,.string ⟨#[99]⟩,.string ⟨#[108,111,97,100]⟩,.int .i64 33,.string ⟨#[114]⟩,.string ⟨#[115,97,118,101]⟩,.int .i64 0,.string ⟨#[102,99]⟩,.string ⟨#[109,97,107,101]⟩,.int .i64 9,.string ⟨#[42]⟩,.string ⟨#[105,110,106,101,99,116]⟩,.int .i64 11,.string ⟨#[42]⟩,.string ⟨#[101,114,97,115,101]⟩,.int .i64 25,.string ⟨#[99]⟩,.string ⟨#[99,108,111,115,117,114,101]⟩,.int .i64 27,.string ⟨#[42]⟩,.string ⟨#[97,114,114,97,121]⟩,.int .i64 9,.string ⟨#[42]⟩,.string ⟨#[112,114,105,109]⟩,.int .i64 19,.string ⟨#[63]⟩,.string ⟨#[99,97,108,108]⟩,.int .i64 471,.string ⟨#[63]⟩,.string ⟨#[119,105,116,110,101,115,115]⟩,.int .i64 471,.string ⟨#[63]⟩,.string ⟨#[97,112,112,108,121]⟩,.int .i64 1,.string ⟨#[63]⟩,.string ⟨#[106,117,109,112]⟩,.int .i64 64,.string ⟨#[]⟩,.string ⟨#[98,114,97,110,99,104]⟩,.int .i64 192,.string ⟨#[114]⟩,.string ⟨#[99,97,115,101]⟩,.int .i64 194,.string ⟨#[114]⟩,.string ⟨#[114,101,116,117,114,110]⟩,.int .i64 0,.string ⟨#[99]⟩,.string ⟨#[116,104,114,111,119]⟩,.int .i64 0,.string ⟨#[99]⟩]
theorem ZGf {P:Program} {o:Oper} {a:Act} {next:Act->World->Prop} {Q:Exit->Act->World->Prop} {W:World} {g:Nat} {t:TypeId} {old:Array Value} {L:List Value} (tab:List Value) (hL:L=tab) (hg:W.heap[g]? =some (.cells old t (0,0)))
  (hs:old.size=tab.length) (h1:tab.all (·.oneCell')=true) (h:next (a.put o.dst undef) (W.setRow g tab.toArray)):
  Oper.upon P o a next Q (((storeCells ⟨g,0,none⟩ L).run P W).andThen fun _ w'=>Result.ok Next.skip w'):=by
 subst hL
 have:=run_storeCells_from (P:=P) g t L 0 old W hg (by omega) (fun v hv=>(List.all_eq_true.1 h1) v hv)
 have e:(storeCells ⟨g,0,none⟩ L).run P W= .ok () (W.setRow g L.toArray):=by simpa using this
 rw [e,Result.andThen_ok]
 exact h
theorem ZGG (w:World) (a b:Array Value) (t u:TypeId):((w.alloc (.cells a t)).alloc (.cells b u)).heap[w.heap.size+1]? =some (.cells b u (0,0)):=by
 show ((w.heap.push (.cells a t (0,0))).push (.cells b u (0,0)))[w.heap.size+1]? =_
 rw [Array.getElem?_push,if_pos (by simp only [Array.size_push])]
theorem ZGk (w:World) (a b:Array Value) (t u:TypeId) (tab:Array Value):
  (((w.alloc (.cells a t)).alloc (.cells b u)).setRow (w.heap.size+1) tab).heap.size=w.heap.size+2/\
  (((w.alloc (.cells a t)).alloc (.cells b u)).setRow (w.heap.size+1) tab).heap[w.heap.size]? =some (.cells a t (0,0))/\
  (((w.alloc (.cells a t)).alloc (.cells b u)).setRow (w.heap.size+1) tab).heap[w.heap.size+1]? =some (.cells tab u (0,0))/\
  Below w.heap.size w (((w.alloc (.cells a t)).alloc (.cells b u)).setRow (w.heap.size+1) tab):=by
 have hs:(((w.alloc (.cells a t)).alloc (.cells b u)).setRow (w.heap.size+1) tab).heap.size=w.heap.size+2:=by
  simp only [World.setRow,Array.size_modify]
  show ((w.heap.push (.cells a t (0,0))).push (.cells b u (0,0))).size=_
  simp only [Array.size_push]
 have e: ∀b'<w.heap.size+1,(((w.alloc (.cells a t)).alloc (.cells b u)).setRow (w.heap.size+1) tab).heap[b']? =(w.heap.push (.cells a t (0,0)))[b']? :=fun b' hb=>by
  simp only [World.setRow,Array.getElem?_modify]
  rw [if_neg (by omega)]
  show ((w.heap.push (.cells a t (0,0))).push (.cells b u (0,0)))[b']? =_
  rw [Array.getElem?_push,if_neg (by rw [Array.size_push];omega)]
 refine ⟨hs,?_,setRow_heap _ _ _ _ _ _ (ZGG w a b t u),rfl,rfl,rfl,by rw [hs];omega,fun b' hb=>?_⟩
 ·rw [e _ (by omega),Array.getElem?_push,if_pos rfl]
 ·rw [e _ (by omega),Array.getElem?_push,if_neg (by omega)]
theorem set3 {W:World} {n:Nat} {x y z:Value} {t:TypeId} (hb:W.heap[n]? =some (.cells #[x,y,z] t (0,0))) (a b c:Value):
  ((W.setCell ⟨n,0,none⟩ a).setCell ⟨n,1,none⟩ b).setCell ⟨n,2,none⟩ c=W.setRow n #[a,b,c]:=by
 rw [setCell_eq_setRow W n 0 _ t (0,0) a hb]
 have h1:=setRow_heap W n _ (#[x,y,z].setIfInBounds 0 a) t (0,0) hb
 rw [setCell_eq_setRow _ n 1 _ t (0,0) b h1,setRow_setRow]
 have h2:=setRow_heap W n _ ((#[x,y,z].setIfInBounds 0 a).setIfInBounds 1 b) t (0,0) hb
 rw [setCell_eq_setRow _ n 2 _ t (0,0) c h2,setRow_setRow]
 rfl
theorem ZFi {B n:Nat} {W:World} {cs:Array Value} (h:B<=n):Below B W (W.setRow n cs):=by
 refine ⟨rfl,rfl,rfl,by simp only [World.setRow,Array.size_modify];exact Nat.le_refl _,fun b hb=>?_⟩
 simp only [World.setRow,Array.getElem?_modify]
 rw [if_neg (by omega)]
theorem Tryz.rows_out (op:Int) (w:World) (h:op<0∨22<=op):
  Calls Tryz.prog 41 #[.int .i64 op] w fun e w'=>e= .returned (.agg #[.string ⟨#[]⟩,.int .i64 0,.string ⟨#[]⟩])/\Below w.heap.size w w':=by
 go_enter Tryz.func41,Tryz.ntmps41
 go_wp2
 refine ZGf (t:=175) (old:=Tryz.zeroCells175) ZGr (by kernel_rfl) (ZGG w _ _ 102 175) (by kernel_rfl) (by kernel_rfl) ?_
 have key:=ZGk w #[.string ⟨#[]⟩,.int .i64 0,.string ⟨#[]⟩] Tryz.zeroCells175 102 175 ZGr.toArray
 generalize hW:World.setRow _ _ _=W1
 rw [hW] at key
 clear hW
 obtain ⟨hs,hb0,hb1,hB⟩:=key
 have c0:W1.cell? ⟨w.heap.size,0,none⟩=some (.string ⟨#[]⟩):=by simp [World.cell?,hb0]
 have c1:W1.cell? ⟨w.heap.size,1,none⟩=some (.int .i64 0):=by simp [World.cell?,hb0]
 have c2:W1.cell? ⟨w.heap.size,2,none⟩=some (.string ⟨#[]⟩):=by simp [World.cell?,hb0]
 have f0: ∀i,W1.frozen? ⟨w.heap.size,i,none⟩=false:=fun i=>by simp [World.frozen?,hb0]
 have fin: ∀W2,W2=W1.setRow w.heap.size #[.string ⟨#[]⟩,.int .i64 0,.string ⟨#[]⟩]->W2.cell? ⟨w.heap.size,0,none⟩=some (.string ⟨#[]⟩)/\W2.cell? ⟨w.heap.size,1,none⟩=some (.int .i64 0)/\W2.cell? ⟨w.heap.size,2,none⟩=some (.string ⟨#[]⟩)/\Below w.heap.size w W2:=fun W2 e=>by
  have hb2:=setRow_heap W1 w.heap.size _ #[.string ⟨#[]⟩,.int .i64 0,.string ⟨#[]⟩] _ _ hb0
  rw [<-e] at hb2
  exact ⟨by simp [World.cell?,hb2],by simp [World.cell?,hb2],by simp [World.cell?,hb2],hB.trans (e ▸ ZFi (Nat.le_refl _))⟩
 go_wp2
 all_goals (try rw [set3 hb0])
 all_goals (try (generalize hW2:World.setRow _ _ _=W2;obtain ⟨d0,d1,d2,hB2⟩:=fin W2 hW2.symm;exact bodyPost_ret (v:= .agg #[.string ⟨#[]⟩,.int .i64 0,.string ⟨#[]⟩]) (by simp [results,Tryz.results41,go_sem,d0,d1,d2]) rfl ⟨rfl,hB2⟩))
theorem ZIk (k:Nat) (h:k<22): ∃a b,ZGr[k*3]? =some (.string a)/\ZGr[k*3+1]? =some (.int .i64 (ZGe.getD k 0))/\ZGr[k*3+2]? =some (.string b):=by
 match k,h with
 | 0,_=>exact ⟨_,_,rfl,rfl,rfl⟩
 | 1,_=>exact ⟨_,_,rfl,rfl,rfl⟩
 | 2,_=>exact ⟨_,_,rfl,rfl,rfl⟩
 | 3,_=>exact ⟨_,_,rfl,rfl,rfl⟩
 | 4,_=>exact ⟨_,_,rfl,rfl,rfl⟩
 | 5,_=>exact ⟨_,_,rfl,rfl,rfl⟩
 | 6,_=>exact ⟨_,_,rfl,rfl,rfl⟩
 | 7,_=>exact ⟨_,_,rfl,rfl,rfl⟩
 | 8,_=>exact ⟨_,_,rfl,rfl,rfl⟩
 | 9,_=>exact ⟨_,_,rfl,rfl,rfl⟩
 | 10,_=>exact ⟨_,_,rfl,rfl,rfl⟩
 | 11,_=>exact ⟨_,_,rfl,rfl,rfl⟩
 | 12,_=>exact ⟨_,_,rfl,rfl,rfl⟩
 | 13,_=>exact ⟨_,_,rfl,rfl,rfl⟩
 | 14,_=>exact ⟨_,_,rfl,rfl,rfl⟩
 | 15,_=>exact ⟨_,_,rfl,rfl,rfl⟩
 | 16,_=>exact ⟨_,_,rfl,rfl,rfl⟩
 | 17,_=>exact ⟨_,_,rfl,rfl,rfl⟩
 | 18,_=>exact ⟨_,_,rfl,rfl,rfl⟩
 | 19,_=>exact ⟨_,_,rfl,rfl,rfl⟩
 | 20,_=>exact ⟨_,_,rfl,rfl,rfl⟩
 | 21,_=>exact ⟨_,_,rfl,rfl,rfl⟩
 | n+22,h=>exact absurd h (by omega)
theorem Tryz.rows_in (k:Nat) (w:World) (h:k<22):
  Calls Tryz.prog 41 #[.int .i64 k] w fun e w'=>(∃a b,e= .returned (.agg #[.string a,.int .i64 (ZGe.getD k 0),.string b]))/\Below w.heap.size w w':=by
 obtain ⟨a,b,r0,r1,r2⟩:=ZIk k h
 generalize ZGe.getD k 0=u at r1⊢
 have g0: ¬((k:Int)<0):=by omega
 have g1: ¬((22:Int)<=(k:Int)):=by omega
 go_enter Tryz.func41,Tryz.ntmps41
 go_wp2
 refine ZGf (t:=175) (old:=Tryz.zeroCells175) ZGr (by kernel_rfl) (ZGG w _ _ 102 175) (by kernel_rfl) (by kernel_rfl) ?_
 have key:=ZGk w #[.string ⟨#[]⟩,.int .i64 0,.string ⟨#[]⟩] Tryz.zeroCells175 102 175 ZGr.toArray
 generalize hW:World.setRow _ _ _=W1
 rw [hW] at key
 clear hW
 obtain ⟨hs,hb0,hb1,hB⟩:=key
 have c0:W1.cell? ⟨w.heap.size,0,none⟩=some (.string ⟨#[]⟩):=by simp [World.cell?,hb0]
 have c1:W1.cell? ⟨w.heap.size,1,none⟩=some (.int .i64 0):=by simp [World.cell?,hb0]
 have c2:W1.cell? ⟨w.heap.size,2,none⟩=some (.string ⟨#[]⟩):=by simp [World.cell?,hb0]
 have f0: ∀i,W1.frozen? ⟨w.heap.size,i,none⟩=false:=fun i=>by simp [World.frozen?,hb0]
 have q0:W1.cell? ⟨w.heap.size+1,k*3,none⟩=some (.string a):=by simp [World.cell?,hb1,r0]
 have q1:W1.cell? ⟨w.heap.size+1,k*3+1,none⟩=some (.int .i64 u):=by simp only [World.cell?,hb1];simpa using r1
 have q2:W1.cell? ⟨w.heap.size+1,k*3+2,none⟩=some (.string b):=by simp only [World.cell?,hb1];simpa using r2
 have fin: ∀W2,W2=W1.setRow w.heap.size #[.string a,.int .i64 u,.string b]->W2.cell? ⟨w.heap.size,0,none⟩=some (.string a)/\W2.cell? ⟨w.heap.size,1,none⟩=some (.int .i64 u)/\W2.cell? ⟨w.heap.size,2,none⟩=some (.string b)/\Below w.heap.size w W2:=fun W2 e=>by
  have hb2:=setRow_heap W1 w.heap.size _ #[.string a,.int .i64 u,.string b] _ _ hb0
  rw [<-e] at hb2
  exact ⟨by simp [World.cell?,hb2],by simp [World.cell?,hb2],by simp [World.cell?,hb2],hB.trans (e ▸ ZFi (Nat.le_refl _))⟩
 go_wp2
 rw [set3 hb0]
 generalize hW2:World.setRow _ _ _=W2
 obtain ⟨d0,d1,d2,hB2⟩:=fin W2 hW2.symm
 exact bodyPost_ret (v:= .agg #[.string a,.int .i64 u,.string b]) (by simp [results,Tryz.results41,go_sem,d0,d1,d2]) rfl ⟨⟨a,b,rfl⟩,hB2⟩
end Go.Proofs
end
