/- Part. -/
import Derived.Test.YtnnimjficnjbdaaGreatDoorObv
import Derived.Test.YtnnimjficnjbdaaGreatDoorOar
import Derived.Test.YtnnimjficnjbdaaGreatDoorCards
import Derived.Test.YtnnimjficnjbdaaGreatDoorTie
import Derived.WalkKit
import Derived.ProofKit
import Derived.OpenShut
import Derived.Deep.DeepHandedRow
import Derived.Lib.LaidTab
import Derived.Stop.LaidErr
import Derived.ShapedOpen
import Derived.LaidMore
import Derived.SliceStrings
import Derived.Carry
set_option maxRecDepth 999999
set_option maxHeartbeats 0
set_option linter.all false
section
namespace Go.Am
open Go.Proofs
attribute [local instance] wiB
def ZK3 (W:World) (b:Nat):Nat:=((W.shape? b).map (·.2)).getD 0
def gOf (W:World):G:=⟨0,fun b=>W.heap.size<=b∨ ∃i,i<([]:List (List C)).length/\b=0,fun b=>if b<W.heap.size then 4294967296+ZK3 W b else 0,fun _=>none,fun _=>0,fun _=>0⟩
theorem ZPi {W:World} {b o:Nat} {v:Value} (h:W.cell? ⟨b,o,none⟩=some v):o<ZK3 W b:=by
 unfold World.cell? at h
 unfold ZK3 World.shape?
 split at h
 ·rename_i c e z hb
  simp at h
  rw [hb]
  rcases Nat.lt_or_ge o c.size with h'|h'
  ·simpa using h'
  ·rw [Array.getElem?_eq_none h'] at h
   cases h
 ·cases h
theorem ZrY {w:World} {b o:Nat} {v:Value} (h:w.cell? ⟨b,o,none⟩=some v):b<w.heap.size:=by
 rcases Nat.lt_or_ge b w.heap.size with h'|h'
 ·exact h'
 ·simp [World.cell?,Array.getElem?_eq_none h'] at h
theorem Zub {S:Nat->Option Fn} (hS:FnOK Tryz.prog S) {f:Nat} (hf:f<UPB) {args:List A} {b:Bool} {Q:List A->List (List C)->Prop} (hg:Gives S f args [] Q) (hQ: ∀rs os,Q rs os->rs=[.one (.p (.bool b))])
  (hcl: ∀x∈args,x.clean=true) {W:World} {vs:List Value} (hr:ZdP (gOf W) W vs args):
  Calls Tryz.prog f vs.toArray W fun e w'=>e= .returned (.bool b)/\RowKit.Below W.heap.size W w':=by
 obtain ⟨n,rs,os',hc,hq⟩:=hg
 obtain rfl:=hQ _ _ hq
 obtain ⟨_,h⟩:=(ZlN hS n).low hc hf
 refine (h (gOf W) W vs hr hcl Zs Zs Zs ?_ trivial (fun b hb=>hb.imp id fun ⟨i,hi,_⟩=>absurd hi Zs)).mono ?_
 ·intro k hk
  exact ⟨if_neg Zo,rfl⟩
 ·rintro e w' ⟨v,g',rfl,hE,_,_,_,hR,_⟩
  refine ⟨?_,hE.os,hE.tape,hE.output,hE.size,fun k hk=>hE.hid k hk rfl ?_⟩
  ·have hR:RepP g'.pr w' v (.bool b):=hR
   cases hR
   rfl
  ·rintro (h'|⟨i,h',_⟩)
   ·omega
   ·simp at h'
end Go.Am
namespace Go.Proofs
open Go.ChangeShapes Go.WideShapes Go.ChangeAt Go.RowKit Go.WideElems
theorem Zor {W W':World} (h:Below W.heap.size W W') (may:MemPlace->Prop):W.keptBut W' may:=by
 refine ⟨h.os,h.output,fun i hi=>?_⟩
 rw [h.block i hi]
 cases W.heap[i]? with
 | none=>rfl
 | some o=>
   cases o with
   | cells c t fr=>exact ⟨rfl,rfl,rfl,fun _ _=>rfl⟩
   | map es c=>exact Or.inr ⟨rfl,rfl⟩
   | _=>rfl
theorem Tryz.own:ownKnob Tryz.prog.godebug=none:=by kernel_rfl
noncomputable def Tryz.laidW (os:Os):World:=World.doorLaid Tryz.prog 24 os
end Go.Proofs
namespace Go.Proofs.YtnnimjficnjbdaaGreatDoor.flowOverlaps
open Go.ChangeShapes Go.WideShapes Go.ChangeAt Go.RowKit Go.WideElems Go.WideMaps Go.ChangeMaps
set_option maxRecDepth 100000
theorem ZNL {W:World} {cs ds:Array Value} {xs ys:List Am.P} (h:Am.RepL (Am.gOf W).pr W cs.toList xs) (h2:Am.RepL (Am.gOf W).pr W ds.toList ys):Am.ZdP (Am.gOf W) W [.agg cs,.agg ds] [.agg (xs.map .p),.agg (ys.map .p)]:=by
 refine ⟨rfl,fun j u x hu hx=>?_⟩
 match j with
 | 0=>
   injection hu with hu;injection hx with hx;subst hu hx
   refine ⟨cs,rfl,by simp [h.1],fun i u x hu hx=>?_⟩
   simp only [List.getElem?_map,Option.map_eq_some_iff] at hx
   obtain ⟨y,hy,rfl⟩:=hx
   exact h.2 i u y hu hy
 | 1=>
   injection hu with hu;injection hx with hx;subst hu hx
   refine ⟨ds,rfl,by simp [h2.1],fun i u x hu hx=>?_⟩
   simp only [List.getElem?_map,Option.map_eq_some_iff] at hx
   obtain ⟨y,hy,rfl⟩:=hx
   exact h2.2 i u y hu hy
 | j+2=>simp at hu
def seen:List TypeId:=[3,9,22,24,25,27]
theorem ZPO: ∀t∈seen,Am.okSh Tryz.prog seen t=true:=List.all_eq_true.1 (by kernel_rfl)
theorem room {W:World}: ∀b o v,W.cell? ⟨b,o,none⟩=some v->o<(Am.gOf W).pr b:=fun b o v h=>by
 have h1:=Am.ZPi h
 have h2:=Am.ZrY h
 show o<if b<W.heap.size then 4294967296+Am.ZK3 W b else 0
 rw [if_pos h2]
 omega
theorem ZQp {H:Type} {enc:TypeId×Value->H} {W:World} {fuel:Nat} {cs:List Value} {sp:Nat->Bool} {hd:Bool} {x:DataW H×List MemPlace} (h:DataW.trod enc Tryz.prog W 0 sp hd fuel 27 cs=some x):
  ∃y:Am.Fe.Nd,Am.RepL (Am.gOf W).pr W cs y.row/\y.fw:=by
 obtain ⟨xs,h1,h2⟩:=Am.ZPs (pr:=(Am.gOf W).pr) ZPO room fuel 27 _ x Zd h
 obtain ⟨y,rfl,q⟩:=Am.Fe.ZQp _ _ h2
 exact ⟨y,h1,q⟩
theorem walk (W:World) {cs ds:Array Value} {x y:Am.Fe.Nd} (hv:Am.RepL (Am.gOf W).pr W cs.toList x.row) (hx:x.fw) (hv2:Am.RepL (Am.gOf W).pr W ds.toList y.row) (hy:y.fw):
  Calls Tryz.prog 3 #[.agg cs,.agg ds] W fun e W'=>e= .returned (.bool true)/\Below W.heap.size W W':=
 Am.Zub (vs:=[.agg cs,.agg ds]) (b:=true) (Q:=fun rs _=>rs=[Am.Fe.pb true]) Am.Fe.ZDd Zd (Am.Fe.ZQz hx hy) (fun _ _ h=>h)
  (by simp [Am.A.clean,Am.A.cells,Am.C.clean]) (ZNL hv hv2)
theorem ZvU (H:Type) (enc:TypeId×Value->H) (W:World) (base:Nat) (args:Array Value) (ds gs:List (DataW H)) (before:List MemPlace)
  (hval: ∀(j:Nat) t v,Tryz.f3.params[j]? =some t->args[j]? =some v->Value.okWide Tryz.prog W .any base t v)
  (hW:DataW.Whole enc Tryz.prog Tryz.f3.params.toList Rows.flowOverlapsSpec.vars false W args.toList ds gs before) (hL:laidMetH Tryz.prog Rows.flowOverlapsRow.laid W) (hS:W.ShapedOpen Tryz.prog):
  Calls Tryz.prog 3 args W fun e W'=> ∃v,e= .returned v/\Rows.flowOverlapsSpec.post enc Tryz.prog Tryz.f3 false true false false W args v W':=by
 have hW':=hW
 obtain ⟨p,q,hA0,hV,rfl,hfz,hnd⟩:=hW
 have hA:DataW.TrodAll enc Tryz.prog W 0 (fun _=>true) true Tryz.f3.params.toList args.toList ds p:=hA0
 rw [Tryz.params3] at hA hval
 obtain ⟨v0,v1,d0,d1,p0,p1,rfl,rfl,rfl,h0,h1⟩:=trodAll_two hA
 obtain ⟨rfl,rfl⟩:=trodVars_none hV
 obtain ⟨cs,rfl,hcs⟩:=okWide_struct Tryz.underlying27 (hval 0 27 v0 rfl rfl)
 obtain ⟨es,rfl,hes⟩:=okWide_struct Tryz.underlying27 (hval 1 27 v1 rfl rfl)
 have h0k:=h0
 have h1k:=h1
 obtain ⟨f0,e0⟩:=h0
 obtain ⟨f1,e1⟩:=h1
 clear hA0
 simp only [List.append_nil,List.nil_append] at hW'
 have hlt0: ∀x∈p0,x.block<W.heap.size:=fun x hx=>hW'.lt x (by simp [hx])
 have hlt1: ∀x∈p1,x.block<W.heap.size:=fun x hx=>hW'.lt x (by simp [hx])
 obtain ⟨x,r1,q1⟩:=ZQp (cs:=cs.toList) e0
 obtain ⟨y,r2,q2⟩:=ZQp (cs:=es.toList) e1
 refine (walk W r1 q1 r2 q2).mono fun e W' ⟨he,hB⟩=>?_
 subst he
 exact ⟨_,rfl,_,_,_,[],_,[],hW',trodAll_cons_mk (shut_bool Tryz.underlying4 _) trodAll_mk0,trodAll_mk2 (Below.trod (by kernel_rfl) (by kernel_rfl) (of_decide_eq_true (by kernel_rfl)) h0k hB hlt0) (Below.trod (by kernel_rfl) (by kernel_rfl) (of_decide_eq_true (by kernel_rfl)) h1k hB hlt1),rfl,Zor hB _,fun h=>by cases h⟩
theorem Zv4 (os:Os):laidMetH Tryz.prog Rows.flowOverlapsRow.laid ((Tryz.laidW os).forCall (fun _ _=>0) ⟨#[],#[.agg #[.int .i64 0,.string ⟨#[]⟩,.int .i64 0,.int .i64 0,.string ⟨#[]⟩,.int .i64 0,.slice none 0 0,.slice none 0 0,.slice none 0 0,.int .i64 0],.agg #[.int .i64 0,.string ⟨#[]⟩,.int .i64 0,.int .i64 0,.string ⟨#[]⟩,.int .i64 0,.slice none 0 0,.slice none 0 0,.slice none 0 0,.int .i64 0]],[]⟩).memory:=
 laidMetH_of_parts3 (fuel:=8) (laidMet_of_run' 8 (by kernel_rfl) (by kernel_rfl)) (by kernel_rfl) (by kernel_rfl)
theorem reads (os:Os) {H:Type} (enc:TypeId×Value->H): ∃places,DataW.whole enc Tryz.prog ((Tryz.laidW os).forCall (fun _ _=>0) ⟨#[],#[.agg #[.int .i64 0,.string ⟨#[]⟩,.int .i64 0,.int .i64 0,.string ⟨#[]⟩,.int .i64 0,.slice none 0 0,.slice none 0 0,.slice none 0 0,.int .i64 0],.agg #[.int .i64 0,.string ⟨#[]⟩,.int .i64 0,.int .i64 0,.string ⟨#[]⟩,.int .i64 0,.slice none 0 0,.slice none 0 0,.slice none 0 0,.int .i64 0]],[]⟩).memory Tryz.f3.params.toList Rows.flowOverlapsSpec.vars false #[Value.agg #[.int .i64 0,.string ⟨#[]⟩,.int .i64 0,.int .i64 0,.string ⟨#[]⟩,.int .i64 0,.slice none 0 0,.slice none 0 0,.slice none 0 0,.int .i64 0],.agg #[.int .i64 0,.string ⟨#[]⟩,.int .i64 0,.int .i64 0,.string ⟨#[]⟩,.int .i64 0,.slice none 0 0,.slice none 0 0,.slice none 0 0,.int .i64 0]].toList 8=some ([.agg [.lit (.int .i64 0),.lit (.string []),.lit (.int .i64 0),.agg [.lit (.int .i64 0),.lit (.string []),.lit (.int .i64 0),.nil],.nil,.nil,.lit (.int .i64 0)],.agg [.lit (.int .i64 0),.lit (.string []),.lit (.int .i64 0),.agg [.lit (.int .i64 0),.lit (.string []),.lit (.int .i64 0),.nil],.nil,.nil,.lit (.int .i64 0)]],[],places):=
 ⟨[],by kernel_rfl⟩
abbrev inp:Input:=⟨#[],#[.agg #[.int .i64 0,.string ⟨#[]⟩,.int .i64 0,.int .i64 0,.string ⟨#[]⟩,.int .i64 0,.slice none 0 0,.slice none 0 0,.slice none 0 0,.int .i64 0],.agg #[.int .i64 0,.string ⟨#[]⟩,.int .i64 0,.int .i64 0,.string ⟨#[]⟩,.int .i64 0,.slice none 0 0,.slice none 0 0,.slice none 0 0,.int .i64 0]],[]⟩
theorem ZB5 (os:Os):((Tryz.laidW os).forCall (fun _ _=>0) inp).variablesB Tryz.checked.prog=true:=by kernel_rfl
theorem ZBW (os:Os):(((Tryz.laidW os).forCall (fun _ _=>0) inp).heap.toList.drop Tryz.checked.prog.globals.size).take ((begin Tryz.checked.prog (fun _ _=>0) default).world.heap.size-Tryz.checked.prog.globals.size)=
 (begin Tryz.checked.prog (fun _ _=>0) default).world.heap.toList.drop Tryz.checked.prog.globals.size:=by kernel_rfl
theorem w_ok (os:Os):Input.okWideB Tryz.checked.prog ((Tryz.laidW os).forCall (fun _ _=>0) inp) 3 inp=true:=by kernel_rfl
theorem ZCa:Tryz.checked.prog.inits.idxOf? 3=none:=by kernel_rfl
theorem w_os (os:Os):(Tryz.laidW os).os=os:=rfl
theorem ZAP (os:Os) (started:os.Started) (H:Type) (enc:TypeId×Value->H) (F:Stop.Interp):
  ReturnsInHanded {} Tryz.checked os 3 .any ((OpenSpec.ofChange Rows.flowOverlapsSpec).preRow enc Tryz.prog Tryz.f3 Rows.flowOverlapsRow.domain false Rows.flowOverlapsRow.laid) (((OpenSpec.ofChange Rows.flowOverlapsSpec).at F).post enc Tryz.prog Tryz.f3 false true false false):=by
 obtain ⟨places,hx⟩:=reads os enc
 refine returnsInHanded_of_row (C:=Tryz.checked) (s:=OpenSpec.ofChange Rows.flowOverlapsSpec) Tryz.own started ZCa Tryz.func3
  (witness_row_at (enc:=enc) (C:=Tryz.checked) false (Tryz.laidW os) #[.agg #[.int .i64 0,.string ⟨#[]⟩,.int .i64 0,.int .i64 0,.string ⟨#[]⟩,.int .i64 0,.slice none 0 0,.slice none 0 0,.slice none 0 0,.int .i64 0],.agg #[.int .i64 0,.string ⟨#[]⟩,.int .i64 0,.int .i64 0,.string ⟨#[]⟩,.int .i64 0,.slice none 0 0,.slice none 0 0,.slice none 0 0,.int .i64 0]] (w_os os) (ZB5 os) (ZBW os) (w_ok os)
   (OpenSpec.preRow_of_cond 8 hx (by kernel_rfl) (fun k hk=>by cases hk) (by kernel_rfl) (Zv4 os))) ?_
 intro W base args ds gs before hval hW _ _ _ hL hS _
 exact ZvU H enc W base args ds gs before hval hW hL hS
end Go.Proofs.YtnnimjficnjbdaaGreatDoor.flowOverlaps
end
