/- Part. -/
import Derived.Test.YtcdjoaepciegnaaGreatDoorUbi
import Derived.Test.YtcdjoaepciegnaaGreatDoorUal
set_option maxRecDepth 999999
set_option maxHeartbeats 0
set_option linter.all false
section
namespace Go.Am
open Go.Proofs
section
variable [WI] {Pg:Program}
def ZKz {f:Nat} {p:List A->Option (List A)} (hE:Zhz Pg f=true)
   (h: ∀args rs,p args=some rs-> ∀(g:G) (w:World) (vs:List Value),ZdP g w vs args->ZnQ g.pr g.ow w->WI.I g.pr w->
     Calls Pg f vs.toArray w fun e w'=> ∃v,e= .returned v/\RowKit.Below w.heap.size w w'/\RepD g w' RESK v (resD rs)):
   Zf2 Pg f fun args os=>if os.isEmpty then (p args).map fun t=>(t,[]) else none:=by
 intro args os rs os' hp
 cases os with
 | cons o os=>simp at hp
 | nil=>
   simp only [List.isEmpty_nil,if_true,YF] at hp
   obtain ⟨t,ht,e⟩:=hp
   injection e with e1 e2
   subst e1 e2
   refine ⟨hE,fun g w vs hr _ _ _ _ hf hi _=>(h args t ht g w vs hr hf hi).mono ?_⟩
   rintro e w' ⟨v,rfl,hB,hR⟩
   exact ⟨_,g,rfl,Znz hB,rfl,rfl,fun b hb=>hf b (Yy hB.size hb),hR,by simp⟩
end
def rowP (args:List A):Option (List A):=match args with
 | [.one (.p (.int .i64 op))]=>some [.agg [.junk,.p (.int .i64 (ZIc op)),.junk]]
 | _=>none
theorem ZJ4 [WI]:Zf2 Proofs.Tryz.prog 41 fun args os=>if os.isEmpty then (rowP args).map fun t=>(t,[]) else none:=by
 refine ZKz (by kernel_rfl) fun args t ht g w vs hr hf hi=>?_
 unfold rowP at ht
 split at ht
 ·rename_i op
  injection ht with ht
  subst ht
  obtain ⟨v,rfl,hv⟩:=Zih hr
  have hv:RepP g.pr w v (.int .i64 op):=hv
  obtain rfl:v= .int .i64 op:=by cases hv;rfl
  have key:Calls Proofs.Tryz.prog 41 #[.int .i64 op] w fun e w'=>(∃a b,e= .returned (.agg #[.string a,.int .i64 (ZIc op),.string b]))/\RowKit.Below w.heap.size w w':=by
   by_cases h:0<=op/\op<22
   ·have e1:ZIc op=ZGe.getD op.toNat 0:=if_pos h
    obtain ⟨k,rfl⟩: ∃k:Nat,op=k:=⟨op.toNat,by omega⟩
    rw [e1]
    simpa using Tryz.rows_in k w Zo
   ·have e1:ZIc op=0:=if_neg h
    rw [e1]
    refine (Tryz.rows_out op w Zo).mono ?_
    rintro e w' ⟨rfl,hB⟩
    exact ⟨⟨_,_,rfl⟩,hB⟩
  refine key.mono ?_
  rintro e w' ⟨⟨a,b,rfl⟩,hB⟩
  refine ⟨_,rfl,hB,?_⟩
  refine ⟨_,rfl,rfl,fun i u x hu hx=>?_⟩
  match i,hu,hx with
  | 0,hu,hx=>injection hu with hu;injection hx with hx;subst hu hx;exact ⟨rfl,(fun vs h=>by cases h),(fun vs h=>by cases h)⟩
  | 1,hu,hx=>injection hu with hu;injection hx with hx;subst hu hx;exact RepP.int _ _
  | 2,hu,hx=>injection hu with hu;injection hx with hx;subst hu hx;exact ⟨rfl,(fun vs h=>by cases h),(fun vs h=>by cases h)⟩
  | i+3,hu,hx=>simp at hu
 ·cases ht
end Go.Am
end
