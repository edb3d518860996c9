/- Part. -/
import Derived.Test.YtcdjoaepciegnaaGreatDoorUag
import Derived.Test.YtcdjoaepciegnaaGreatDoorUah
set_option maxRecDepth 999999
set_option maxHeartbeats 0
set_option linter.all false
section
namespace Go.Am.Fe
variable {S:Nat->Option Fn} {Q:List A->List (List C)->Prop}
attribute [local simp] ZbO if_pos if_neg decide_eq_true decide_eq_false Yi Yj ZgF Ops.callv List.idxOf?_cons
end Go.Am.Fe
end
section
namespace Go.Am.Fe
variable {S:Nat->Option Fn} {Q:List A->List (List C)->Prop}
attribute [local simp] ZbO if_pos if_neg decide_eq_true decide_eq_false Yi Yj ZgF Ops.callv List.idxOf?_cons
attribute [local simp] Ty.encs_length
def ZFk {α:Type} {f:α->List P} {l:List α} {j:Nat} (h:j<(l.map f).length):(l.map f)[j]=f (l[j]'(by simpa using h)):=List.getElem_map ..
end Go.Am.Fe
end
section
namespace Go.Am.Fe
variable {S:Nat->Option Fn} {Q:List A->List (List C)->Prop}
attribute [local simp] ZbO if_pos if_neg decide_eq_true decide_eq_false Yi Yj ZgF Ops.callv List.idxOf?_cons
structure Op where
 k:Int
 n:Int
 p:List (List Nat)
abbrev Op.row (x:Op):List P:=[.int .i64 x.k,.int .i64 x.n,.sl 1 (strs x.p)]
def Op.ok (x:Op):Prop:=x.p.length<=140737488355328
structure In where
 o:Int
 d:Int
 a:List Op
 s:List Nat
 n:Int
 t:Ty
 ts:List Ty
 p:List (List Nat)
 to:Int
 er:Int
 e:Int
abbrev In.row (x:In):List P:=[.int .i64 x.o,.int .i64 x.d,.sl 3 (x.a.map Op.row),.str x.s,.int .i64 x.n,.int .i64 x.t.k,.str x.t.s,.int .i64 x.t.n,.sl 4 (Ty.encs x.t.a),.sl 4 (Ty.encs x.ts),.sl 1 (strs x.p),.int .i64 x.to,.int .i64 x.er,.int .i64 x.e]
def In.ok (x:In):Prop:=Ok Op.ok x.a/\x.t.fw/\Ok Ty.fw x.ts/\x.p.length<=140737488355328
def tn_b (hT:S ZcY=some (.code ZgV)): ∀(nn:Nat) (t:Ty) (Q:List A->List (List C)->Prop),t.sz<nn->t.fw->(∀x:Int,1<=x->x<=301->Q [pi x] [])->Gives S ZcY [.agg t.cs,pi 300] [] Q
 | 0=>fun _ _ h=>absurd h (YH _)
 | nn+1=>by
   intro t Q hm ht hQ
   have ih:=tn_b hT nn
   have g5:=Ty.fw_len ht
   have g6:(Ty.encs t.a).length=t.a.length:=Ty.encs_length
   have g7:=Ty.sz_a (t:=t)
   refine .code hT rfl ?_
   simp(disch:=omega)[ZgV]
   refine Lp.rule (fun (b:Int×Nat)=>[(1,.a (pi 300)),(2,.a (.one (.ref ⟨true,10002,0⟩))),(5,.a (pi b.1)),(6,.a (pi b.2)),(9999,.objs []),(10002,.a (.agg t.cs))]) (fun b=>b.2<=t.a.length/\1<=b.1/\b.1<=601) (fun b=>t.a.length-b.2) (a₀:=(1,0)) Zs ⟨Yd _,by decide,by decide⟩ ?_
   rintro ⟨c,j⟩ ⟨k1,k2,k3⟩
   dsimp only at k1 k2 k3
   by_cases hj:j<t.a.length
   · have e:=Ty.encs_get (l:=t.a) (j:=j) Zo
     have q:=Ty.fws_get (Ty.fw_a ht) hj
     have q2:=Ty.szs_get hj
     by_cases hc:c<=300
     · simp(disch:=omega)[e,hc]
       refine ih _ _ Zo q fun x x1 x2=>?_
       simp(disch:=omega)
       exact RdN.mk (_,j+1) rfl ⟨hj,by dsimp only;omega,by dsimp only;omega⟩ Zm
     · simp(disch:=omega)[hc]
       exact hQ _ Zo Zo
   · simp(disch:=omega)
     exact hQ _ Zo Zo
def ZI5 (hT:S ZcY=some (.code ZgV)) (hW:S ZEh=some (.code ZFb)) {x:In} (hx:x.ok) (hQ: ∀n:Int,(n<=1500->x.a.length<=1500)->Q [pi n] []):Gives S ZEh [.agg (x.row.map .p)] [] Q:=by
 obtain ⟨h1,h2,h3,h4⟩:=hx
 have l1:=h1.1
 have l2:=h3.1
 have b1:(x.a.map Op.row).length=x.a.length:=Yh _
 have b2:(Ty.encs x.ts).length=x.ts.length:=Ty.encs_length
 have b3:(strs x.p).length=x.p.length:=by simp [strs]
 have tn: ∀{t:Ty} {Q:List A->List (List C)->Prop},t.fw->(∀x:Int,1<=x->x<=301->Q [pi x] [])->Gives S ZcY [.agg t.cs,pi 300] [] Q:=fun {t Q} ht hQ=>tn_b hT _ t Q (Yz _) ht hQ
 refine .code hW rfl ?_
 simp(disch:=omega)[ZFb]
 refine tn h2 fun n0 n1 n2=>?_
 simp(disch:=omega)
 refine Lp.rule (fun (b:Int×Nat)=>[(1,.a (.one (.ref ⟨true,10001,0⟩))),(3,.a (pi b.1)),(4,.a (pi b.2)),(9999,.objs []),(10001,.a (.agg (x.row.map .p)))]) (fun b=>b.2<=x.ts.length/\1<=b.1/\b.1<=140737488357000) (fun b=>x.ts.length-b.2) (a₀:=(1+n0+x.p.length,0)) Zs ⟨Yd _,by dsimp only;omega,by dsimp only;omega⟩ ?_
 rintro ⟨c,j⟩ ⟨k1,k2,k3⟩
 dsimp only at k1 k2 k3
 by_cases hb:j<x.ts.length/\c<=1500
 ·obtain ⟨hj,hc⟩:=hb
  have e:=Ty.encs_get (l:=x.ts) (j:=j) Zo
  simp(disch:=omega)[e,hc]
  refine tn (h3.get hj) fun y y1 y2=>?_
  simp(disch:=omega)
  exact RdN.mk (_,j+1) rfl ⟨hj,by dsimp only;omega,by dsimp only;omega⟩ Zm
 have h5:(j<x.ts.length/\ ¬c<=1500)∨ ¬j<x.ts.length:=by omega
 rcases h5 with ⟨hj,hc⟩|hj
 all_goals (
  first
    | simp(disch:=omega)[hc]
    | simp(disch:=omega)
  refine Lp.rule (fun (b:Int×Nat)=>[(1,.a (.one (.ref ⟨true,10001,0⟩))),(3,.a (pi b.1)),(5,.a (pi b.2)),(9999,.objs []),(10001,.a (.agg (x.row.map .p)))]) (fun b=>b.2<=x.a.length/\1+(b.2:Int)<=b.1/\b.1<=281474976710656) (fun b=>x.a.length-b.2) (a₀:=(c,0)) Zs ⟨Yd _,by dsimp only;omega,by dsimp only;omega⟩ ?_
  rintro ⟨c2,j2⟩ ⟨m1,m2,m3⟩
  dsimp only at m1 m2 m3
  by_cases hj2:j2<x.a.length
  ·have r1:=ZFk (f:=Op.row) (l:=x.a) (j:=j2) Zo
   have q:x.a[j2].p.length<=140737488355328:=h1.get hj2
   have b4:(strs x.a[j2].p).length=x.a[j2].p.length:=by simp [strs]
   by_cases hc2:c2<=1500
   ·simp(disch:=omega)[r1,hc2]
    exact RdN.mk (_,j2+1) rfl ⟨hj2,by dsimp only;omega,by dsimp only;omega⟩ Zm
   ·simp(disch:=omega)[hc2]
    exact hQ _ Zo
  ·simp(disch:=omega)
   exact hQ _ Zo)
end Go.Am.Fe
end
