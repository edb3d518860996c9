/- Part. -/
import Derived.Test.YtcdjoaepciegnaaGreatDoorUbl
import Derived.Test.YtcdjoaepciegnaaGreatDoorUbb
import Derived.Test.YtcdjoaepciegnaaGreatDoorCards
import Derived.Test.YtcdjoaepciegnaaGreatDoorTie
import Derived.WalkKit
import Derived.ProofKit
import Derived.OpenShut
import Derived.Deep.DeepHandedRow
import Derived.Lib.LaidTab
import Derived.Stop.LaidErr
import Derived.ShapedOpen
import Derived.LaidMore
import Derived.SliceStrings
import Derived.Carry
import Derived.Test.YtcdjoaepciegnaaGreatDoorRows
set_option maxRecDepth 999999
set_option maxHeartbeats 0
set_option linter.all false
section
namespace Go.Proofs
open Go.RowKit
def Zor {W W':World} (h:Below W.heap.size W W') (may:MemPlace->Prop):W.keptBut W' may:=by
 refine ⟨h.os,h.output,fun i hi=>?_⟩
 rw [h.block i hi]
 cases W.heap[i]? with
 | none=>rfl
 | some o=>
   cases o with
   | cells c t fr=>exact ⟨rfl,rfl,rfl,fun _ _=>rfl⟩
   | map es c=>exact Or.inr ⟨rfl,rfl⟩
   | _=>rfl
end Go.Proofs
namespace Go.Proofs
def Tryz.own:ownKnob Tryz.prog.godebug=none:=by kernel_rfl
noncomputable def Tryz.laidW (os:Os):World:=World.doorLaid Tryz.prog 24 os
end Go.Proofs
namespace Go.Proofs.YtcdjoaepciegnaaGreatDoor.middleUses
open Go.ChangeShapes Go.WideShapes Go.ChangeAt Go.RowKit Go.WideElems Go.WideMaps Go.ChangeMaps
set_option maxRecDepth 100000
def seen:List TypeId:=[3,9,31,60,41,56,177,40,38,57,80,58,81,43,37,53]
def ZJ7: ∀t∈seen,Am.okSh Tryz.prog seen t=true:=List.all_eq_true.1 (by kernel_rfl)
def ZJD {W:World} {b o:Nat} {v:Value} (h:W.cell? ⟨b,o,none⟩=some v):b<W.heap.size:=by
 rcases Yt b W.heap.size with h'|h'
 ·exact h'
 ·simp only [World.cell?] at h
  rw [Array.getElem?_eq_none h'] at h
  cases h
def room {W:World}: ∀b o v,W.cell? ⟨b,o,none⟩=some v->o<(Am.gOf W).pr b:=fun b o v h=>by
 have h1:=Am.ZKa h
 have h2:=ZJD h
 show o<if b<W.heap.size then 4294967296+Am.ZGX W b else 0
 rw [if_pos h2]
 omega
def ZJt {H:Type} {enc:TypeId×Value->H} {W:World} {fuel:Nat} {cs:List Value} {sp:Nat->Bool} {hd:Bool} {x:DataW H×List MemPlace} (h:DataW.trod enc Tryz.prog W 0 sp hd fuel 43 cs=some x) (hw: ∀n∈x.1.weights Tryz.prog 43,n<=140737488355328):
  ∃y:Am.Fe.In,Am.RepL (Am.gOf W).pr W cs y.row/\y.ok:=by
 obtain ⟨xs,h1,h2⟩:=Am.ZJV (pr:=(Am.gOf W).pr) ZJ7 room fuel 43 _ x Zd h hw
 obtain ⟨y,rfl,q⟩:=Am.Fe.ZKY h2
 exact ⟨y,h1,q⟩
theorem ZH0 {W:World} {cs:Array Value} {xs:List Am.P} (h:Am.RepL (Am.gOf W).pr W cs.toList xs):Am.ZdP (Am.gOf W) W [.agg cs] [.agg (xs.map .p)]:=by
 refine ⟨rfl,fun j u x hu hx=>?_⟩
 match j with
 | 0=>
   injection hu with hu;injection hx with hx;subst hu hx
   refine ⟨cs,rfl,by simp [h.1],fun i u x hu hx=>?_⟩
   simp only [Yn,YF] at hx
   obtain ⟨y,hy,rfl⟩:=hx
   exact h.2 i u y hu hy
 | j+1=>simp at hu
def walk (W:World) {cs:Array Value} {x:Am.Fe.In} (hv:Am.RepL (Am.gOf W).pr W cs.toList x.row) (hx:x.ok):
  Calls Tryz.prog 4 #[.agg cs] W fun e W'=>e= .returned (.bool true)/\Below W.heap.size W W':=
 Am.ZHX (vs:=[.agg cs]) (b:=true) (Q:=fun rs _=>rs=[Am.Fe.pb true]) Am.Fe.ZKZ (Am.Fe.ZKL hx) (fun _ _ h=>h)
  (by simp [Am.A.clean,Am.A.cells,Am.C.clean]) (ZH0 hv)
def ZvU (H:Type) (enc:TypeId×Value->H) (W:World) (base:Nat) (args:Array Value) (ds gs:List (DataW H)) (before:List MemPlace)
  (hval: ∀(j:Nat) t v,Tryz.f4.params[j]? =some t->args[j]? =some v->Value.okWide Tryz.prog W .any base t v)
  (hW:DataW.Whole enc Tryz.prog Tryz.f4.params.toList Rows.middleUsesSpec.vars false W args.toList ds gs before)
  (hz:(DataW.weightsEach Tryz.prog (Tryz.f4.params.toList++(OpenSpec.ofChange Rows.middleUsesSpec).bare.plain.varTypes Tryz.prog) (ds++gs)).all (· <=reachBytes)=true):
  Calls Tryz.prog 4 args W fun e W'=> ∃v,e= .returned v/\Rows.middleUsesSpec.post enc Tryz.prog Tryz.f4 false true false false W args v W':=by
 have hW':=hW
 obtain ⟨p,q,hA0,hV,rfl,hfz,hnd⟩:=hW
 have hA:DataW.TrodAll enc Tryz.prog W 0 (fun _=>true) true Tryz.f4.params.toList args.toList ds p:=hA0
 rw [Tryz.params4] at hA hval hz
 obtain ⟨v0,d0,rfl,rfl,h0⟩:=trodAll_one hA
 obtain ⟨rfl,rfl⟩:=trodVars_none hV
 obtain ⟨cs,rfl,hcs⟩:=okWide_struct Tryz.underlying43 (hval 0 43 v0 rfl rfl)
 have h0k:=h0
 obtain ⟨f0,e0⟩:=h0
 clear hA0
 simp only [List.append_nil,YO] at hW'
 have hlt0: ∀x∈p,x.block<W.heap.size:=fun x hx=>hW'.lt x (by simp [hx])
 have hwt: ∀n∈d0.weights Tryz.prog 43,n<=140737488355328:=fun n hn=>by
  have h1:=List.all_eq_true.1 hz n (by simp [DataW.weightsEach,hn])
  have h2:=reachBytes_lt
  have h3:n<=reachBytes:=by simpa using h1
  omega
 obtain ⟨x,r0,q0⟩:=ZJt (cs:=cs.toList) e0 hwt
 refine (walk W r0 q0).mono fun e W' ⟨he,hB⟩=>?_
 subst he
 exact ⟨_,rfl,_,_,_,[],_,[],hW',trodAll_cons_mk (shut_bool Tryz.underlying4 _) trodAll_mk0,trodAll_mk1 (Below.trod (by kernel_rfl) (by kernel_rfl) (of_decide_eq_true (by kernel_rfl)) h0k hB hlt0),rfl,Zor hB _,fun h=>by cases h⟩
def Zv4 (os:Os):laidMetH Tryz.prog Rows.middleUsesRow.laid ((Tryz.laidW os).forCall (fun _ _=>0) ⟨#[],#[.agg #[.int .i64 0,.int .i64 0,.slice none 0 0,.string ⟨#[]⟩,.int .i64 0,.int .i64 0,.string ⟨#[]⟩,.int .i64 0,.slice none 0 0,.slice none 0 0,.slice none 0 0,.int .i64 0,.int .i64 0,.int .i64 0]],[]⟩).memory:=
 laidMetH_of_parts3 (fuel:=8) (laidMet_of_run' 8 (by kernel_rfl) (by kernel_rfl)) (by kernel_rfl) (by kernel_rfl)
def reads (os:Os) {H:Type} (enc:TypeId×Value->H): ∃places,DataW.whole enc Tryz.prog ((Tryz.laidW os).forCall (fun _ _=>0) ⟨#[],#[.agg #[.int .i64 0,.int .i64 0,.slice none 0 0,.string ⟨#[]⟩,.int .i64 0,.int .i64 0,.string ⟨#[]⟩,.int .i64 0,.slice none 0 0,.slice none 0 0,.slice none 0 0,.int .i64 0,.int .i64 0,.int .i64 0]],[]⟩).memory Tryz.f4.params.toList Rows.middleUsesSpec.vars false #[Value.agg #[.int .i64 0,.int .i64 0,.slice none 0 0,.string ⟨#[]⟩,.int .i64 0,.int .i64 0,.string ⟨#[]⟩,.int .i64 0,.slice none 0 0,.slice none 0 0,.slice none 0 0,.int .i64 0,.int .i64 0,.int .i64 0]].toList 8=some ([.agg [.lit (.int .i64 0),.lit (.int .i64 0),.nil,.lit (.string []),.lit (.int .i64 0),.agg [.lit (.int .i64 0),.lit (.string []),.lit (.int .i64 0),.nil],.nil,.nil,.lit (.int .i64 0),.lit (.int .i64 0),.lit (.int .i64 0)]],[],places):=
 ⟨[],by kernel_rfl⟩
abbrev inp:Input:=⟨#[],#[.agg #[.int .i64 0,.int .i64 0,.slice none 0 0,.string ⟨#[]⟩,.int .i64 0,.int .i64 0,.string ⟨#[]⟩,.int .i64 0,.slice none 0 0,.slice none 0 0,.slice none 0 0,.int .i64 0,.int .i64 0,.int .i64 0]],[]⟩
def ZB5 (os:Os):((Tryz.laidW os).forCall (fun _ _=>0) inp).variablesB Tryz.checked.prog=true:=by kernel_rfl
def ZBW (os:Os):(((Tryz.laidW os).forCall (fun _ _=>0) inp).heap.toList.drop Tryz.checked.prog.globals.size).take ((begin Tryz.checked.prog (fun _ _=>0) default).world.heap.size-Tryz.checked.prog.globals.size)=
 (begin Tryz.checked.prog (fun _ _=>0) default).world.heap.toList.drop Tryz.checked.prog.globals.size:=by kernel_rfl
def w_ok (os:Os):Input.okWideB Tryz.checked.prog ((Tryz.laidW os).forCall (fun _ _=>0) inp) 4 inp=true:=by kernel_rfl
def ZCa:Tryz.checked.prog.inits.idxOf? 4=none:=by kernel_rfl
def w_os (os:Os):(Tryz.laidW os).os=os:=rfl
def ZAP (os:Os) (started:os.Started) (H:Type) (enc:TypeId×Value->H) (F:Stop.Interp):
  ReturnsInHanded {} Tryz.checked os 4 .any ((OpenSpec.ofChange Rows.middleUsesSpec).preRow enc Tryz.prog Tryz.f4 Rows.middleUsesRow.domain false Rows.middleUsesRow.laid) (((OpenSpec.ofChange Rows.middleUsesSpec).at F).post enc Tryz.prog Tryz.f4 false true false false):=by
 obtain ⟨places,hx⟩:=reads os enc
 refine returnsInHanded_of_row (C:=Tryz.checked) (s:=OpenSpec.ofChange Rows.middleUsesSpec) Tryz.own started ZCa Tryz.func4
  (witness_row_at (enc:=enc) (C:=Tryz.checked) false (Tryz.laidW os) #[.agg #[.int .i64 0,.int .i64 0,.slice none 0 0,.string ⟨#[]⟩,.int .i64 0,.int .i64 0,.string ⟨#[]⟩,.int .i64 0,.slice none 0 0,.slice none 0 0,.slice none 0 0,.int .i64 0,.int .i64 0,.int .i64 0]] (w_os os) (ZB5 os) (ZBW os) (w_ok os)
   (OpenSpec.preRow_of_cond 8 hx (by kernel_rfl) (fun k hk=>by cases hk) (by kernel_rfl) (Zv4 os))) ?_
 intro W base args ds gs before hval hW _ _ hz _ _ _
 exact ZvU H enc W base args ds gs before hval hW hz
end Go.Proofs.YtcdjoaepciegnaaGreatDoor.middleUses
end
