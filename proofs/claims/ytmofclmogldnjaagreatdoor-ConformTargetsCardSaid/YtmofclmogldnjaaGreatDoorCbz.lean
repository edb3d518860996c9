/- Part. -/
import Derived.Test.YtmofclmogldnjaaGreatDoorCby
import Derived.Test.YtmofclmogldnjaaGreatDoorCbg
import Derived.Test.YtmofclmogldnjaaGreatDoorCbw
import Derived.SliceStrings
import Derived.Carry
set_option maxRecDepth 999999
set_option maxHeartbeats 0
set_option linter.all false
section
namespace Go.Proofs.YtmofclmogldnjaaGreatDoor.conformTargets
open Go.ChangeShapes Go.WideShapes Go.ChangeAt Go.RowKit Go.WideElems Go.WideMaps Go.ChangeMaps
set_option maxRecDepth 100000
theorem ZK5 {W:World} {s:ByteArray} {cs ds:Array Value} {xs ys:List Am.P} (h:Am.RepL (Am.gOf W).pr W cs.toList xs) (h':Am.RepL (Am.gOf W).pr W ds.toList ys):Am.ZdP (Am.gOf W) W [.string s,.agg cs,.agg ds] [.one (.p (.str (Am.ZbJ s))),.agg (xs.map .p),.agg (ys.map .p)]:=by
 refine ⟨rfl,fun j u x hu hx=>?_⟩
 match j with
 | 0=>injection hu with hu;injection hx with hx;subst hu hx;exact Am.RepP.str _ _ rfl
 | 1=>
   injection hu with hu;injection hx with hx;subst hu hx;refine ⟨cs,rfl,by simp [h.1],fun i u x hu hx=>?_⟩;simp only [Yn,YG] at hx;obtain ⟨y,hy,rfl⟩:=hx;exact h.2 i u y hu hy
 | 2=>
   injection hu with hu;injection hx with hx;subst hu hx;refine ⟨ds,rfl,by simp [h'.1],fun i u x hu hx=>?_⟩;simp only [Yn,YG] at hx;obtain ⟨y,hy,rfl⟩:=hx;exact h'.2 i u y hu hy
 | j+3=>simp at hu
def seen:List TypeId:=[3,9,22,24,25,27,48]
def ZL7: ∀t∈seen,Am.okSh Tryz.prog seen t=true:=List.all_eq_true.1 (by kernel_rfl)
def room {W:World}: ∀b o v,W.cell? ⟨b,o,none⟩=some v->o<(Am.gOf W).pr b:=fun b o v h=>by
 have h1:=Am.ZNw h;have h2:=Am.ZrY h;show o<if b<W.heap.size then 4294967296+Am.ZI8 W b else 0
 rw [if_pos h2];omega
def ZOb {H:Type} {enc:TypeId×Value->H} {W:World} {fuel:Nat} {cs:List Value} {sp:Nat->Bool} {hd:Bool} {x:DataW H×List MemPlace} (h:DataW.trod enc Tryz.prog W 0 sp hd fuel 27 cs=some x):
  ∃y:Am.Fe.Wi,Am.RepL (Am.gOf W).pr W cs y.row/\y.fv:=by
 obtain ⟨xs,h1,h2⟩:=Am.ZMy (pr:=(Am.gOf W).pr) ZL7 room fuel 27 _ x Zd h;obtain ⟨y,rfl,q⟩:=Am.Fe.ZOt _ _ h2;exact ⟨y,h1,q⟩
def ZN8 {H:Type} {enc:TypeId×Value->H} {W:World} {fuel:Nat} {cs:List Value} {sp:Nat->Bool} {hd:Bool} {x:DataW H×List MemPlace} (h:DataW.trod enc Tryz.prog W 0 sp hd fuel 48 cs=some x):
  ∃q m:List Nat,Am.RepL (Am.gOf W).pr W cs [.str q,.str m]:=by
 obtain ⟨xs,h1,h2⟩:=Am.ZMy (pr:=(Am.gOf W).pr) ZL7 room fuel 48 _ x Zd h;obtain ⟨q,m,rfl⟩:=Am.Fe.ZOv h2;exact ⟨q,m,h1⟩
def walk (W:World) (s:ByteArray) {cs ds:Array Value} {y:Am.Fe.Wi} {q m:List Nat} (hv:Am.RepL (Am.gOf W).pr W cs.toList y.row) (hu:Am.RepL (Am.gOf W).pr W ds.toList [.str q,.str m]) (hy:y.fv)
  (htab:Lib.TabIs Tryz.prog W Am.ZhA .u64 Lib.pow10Tab) (hmax: ∃m,W.cell? ⟨0,0,none⟩=some (.int .i64 m)):
  Calls Tryz.prog 4 #[.string s,.agg cs,.agg ds] W fun e W'=>e= .returned (.bool true)/\Below W.heap.size W W':=
 Am.Zub (vs:=[.string s,.agg cs,.agg ds]) (b:=true) (Q:=fun rs _=>rs=[Am.Fe.pb true]) Am.Fe.ZOG (Am.Fe.ZOa (Am.Ztk s) hy) (fun _ _ h=>h)
  (by simp [Am.A.clean,Am.A.cells,Am.C.clean]) (ZK5 hv hu) htab hmax
def ZvU (H:Type) (enc:TypeId×Value->H) (W:World) (base:Nat) (args:Array Value) (ds gs:List (DataW H)) (before:List MemPlace)
  (hval: ∀(j:Nat) t v,Tryz.f4.params[j]? =some t->args[j]? =some v->Value.okWide Tryz.prog W .any base t v)
  (hW:DataW.Whole enc Tryz.prog Tryz.f4.params.toList Rows.conformTargetsSpec.vars false W args.toList ds gs before) (hL:laidMetH Tryz.prog Rows.conformTargetsRow.laid W) (hS:W.ShapedOpen Tryz.prog):
  Calls Tryz.prog 4 args W fun e W'=> ∃v,e= .returned v/\Rows.conformTargetsSpec.post enc Tryz.prog Tryz.f4 false true false false W args v W':=by
 have hW':=hW;obtain ⟨p,q,hA0,hV,rfl,hfz,hnd⟩:=hW;have hA:DataW.TrodAll enc Tryz.prog W 0 (fun _=>true) true Tryz.f4.params.toList args.toList ds p:=hA0;rw [Tryz.params4] at hA hval;obtain ⟨v0,v1,v2,d0,d1,d2,p0,p1,p2,rfl,rfl,rfl,h0,h1,h2⟩:=trodAll_three hA;obtain ⟨rfl,rfl⟩:=trodVars_none hV;obtain ⟨s,rfl,rfl,rfl,hs⟩:=open_string Tryz.underlying9 (hval 0 9 v0 rfl rfl) h0;obtain ⟨cs,rfl,hcs⟩:=okWide_struct Tryz.underlying27 (hval 1 27 v1 rfl rfl);obtain ⟨es,rfl,hes⟩:=okWide_struct Tryz.underlying48 (hval 2 48 v2 rfl rfl);have h1k:=h1;have h2k:=h2;obtain ⟨f1,e1⟩:=h1;obtain ⟨f2,e2⟩:=h2;clear hA0;simp only [List.append_nil,YP] at hW';have hlt1: ∀x∈p1,x.block<W.heap.size:=fun x hx=>hW'.lt x (by simp [hx]);have hlt2: ∀x∈p2,x.block<W.heap.size:=fun x hx=>hW'.lt x (by simp [hx]);obtain ⟨x,r1,q1⟩:=ZOb (cs:=cs.toList) e1;obtain ⟨q,m,r2⟩:=ZN8 (cs:=es.toList) e2;refine (walk W s r1 r2 q1 (Tryz.tab_of_laid hL) (Tryz.max_of_shaped hS)).mono fun e W' ⟨he,hB⟩=>?_;subst he;exact ⟨_,rfl,_,_,_,[],_,[],hW',trodAll_cons_mk (shut_bool Tryz.underlying4 _) trodAll_mk0,trodAll_mk3 (shut_string Tryz.underlying9 hs) (Below.trod (by kernel_rfl) (by kernel_rfl) (of_decide_eq_true (by kernel_rfl)) h1k hB hlt1) (Below.trod (by kernel_rfl) (by kernel_rfl) (of_decide_eq_true (by kernel_rfl)) h2k hB hlt2),rfl,Zor hB _,fun h=>by cases h⟩
def Zv4 (os:Os):laidMetH Tryz.prog Rows.conformTargetsRow.laid ((Tryz.laidW os).forCall (fun _ _=>0) ⟨#[],#[.string ⟨#[]⟩,.agg #[.int .i64 0,.slice none 0 0,.slice none 0 0],.agg #[.string ⟨#[]⟩,.string ⟨#[]⟩]],[]⟩).memory:=
 laidMetH_of_parts3 (fuel:=8) (laidMet_of_run' 8 (by kernel_rfl) (by kernel_rfl)) (by kernel_rfl) (by kernel_rfl)
def reads (os:Os) {H:Type} (enc:TypeId×Value->H): ∃places,DataW.whole enc Tryz.prog ((Tryz.laidW os).forCall (fun _ _=>0) ⟨#[],#[.string ⟨#[]⟩,.agg #[.int .i64 0,.slice none 0 0,.slice none 0 0],.agg #[.string ⟨#[]⟩,.string ⟨#[]⟩]],[]⟩).memory Tryz.f4.params.toList Rows.conformTargetsSpec.vars false #[Value.string ⟨#[]⟩,.agg #[.int .i64 0,.slice none 0 0,.slice none 0 0],.agg #[.string ⟨#[]⟩,.string ⟨#[]⟩]].toList 8=some ([.lit (.string []),.agg [.lit (.int .i64 0),.nil,.nil],.agg [.lit (.string []),.lit (.string [])]],[],places):=
 ⟨[],by kernel_rfl⟩
abbrev inp:Input:=⟨#[],#[.string ⟨#[]⟩,.agg #[.int .i64 0,.slice none 0 0,.slice none 0 0],.agg #[.string ⟨#[]⟩,.string ⟨#[]⟩]],[]⟩
def ZB5 (os:Os):((Tryz.laidW os).forCall (fun _ _=>0) inp).variablesB Tryz.checked.prog=true:=by kernel_rfl
def ZBW (os:Os):(((Tryz.laidW os).forCall (fun _ _=>0) inp).heap.toList.drop Tryz.checked.prog.globals.size).take ((begin Tryz.checked.prog (fun _ _=>0) default).world.heap.size-Tryz.checked.prog.globals.size)=
 (begin Tryz.checked.prog (fun _ _=>0) default).world.heap.toList.drop Tryz.checked.prog.globals.size:=by kernel_rfl
def w_ok (os:Os):Input.okWideB Tryz.checked.prog ((Tryz.laidW os).forCall (fun _ _=>0) inp) 4 inp=true:=by kernel_rfl
def ZCa:Tryz.checked.prog.inits.idxOf? 4=none:=by kernel_rfl
def w_os (os:Os):(Tryz.laidW os).os=os:=rfl
def ZAP (os:Os) (started:os.Started) (H:Type) (enc:TypeId×Value->H) (F:Stop.Interp):
  ReturnsInHanded {} Tryz.checked os 4 .any ((OpenSpec.ofChange Rows.conformTargetsSpec).preRow enc Tryz.prog Tryz.f4 Rows.conformTargetsRow.domain false Rows.conformTargetsRow.laid) (((OpenSpec.ofChange Rows.conformTargetsSpec).at F).post enc Tryz.prog Tryz.f4 false true false false):=by
 obtain ⟨places,hx⟩:=reads os enc;refine returnsInHanded_of_row (C:=Tryz.checked) (s:=OpenSpec.ofChange Rows.conformTargetsSpec) Tryz.own started ZCa Tryz.func4
  (witness_row_at (enc:=enc) (C:=Tryz.checked) false (Tryz.laidW os) #[.string ⟨#[]⟩,.agg #[.int .i64 0,.slice none 0 0,.slice none 0 0],.agg #[.string ⟨#[]⟩,.string ⟨#[]⟩]] (w_os os) (ZB5 os) (ZBW os) (w_ok os)
   (OpenSpec.preRow_of_cond 8 hx (by kernel_rfl) (fun k hk=>by cases hk) (by kernel_rfl) (Zv4 os))) ?_
 intro W base args ds gs before hval hW _ _ _ hL hS _;exact ZvU H enc W base args ds gs before hval hW hL hS
end Go.Proofs.YtmofclmogldnjaaGreatDoor.conformTargets
end
