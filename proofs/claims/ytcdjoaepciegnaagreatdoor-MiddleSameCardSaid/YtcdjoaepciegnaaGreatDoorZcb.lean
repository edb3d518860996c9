/- Part. -/
import Derived.Test.YtcdjoaepciegnaaGreatDoorZca
import Derived.Test.YtcdjoaepciegnaaGreatDoorZbh
import Derived.Test.YtcdjoaepciegnaaGreatDoorZbz
import Derived.SliceStrings
import Derived.Carry
set_option maxRecDepth 999999
set_option maxHeartbeats 0
set_option linter.all false
section
namespace Go.Proofs.YtcdjoaepciegnaaGreatDoor.middleSame
open Go.ChangeShapes Go.WideShapes Go.ChangeAt Go.RowKit Go.WideElems Go.WideMaps Go.ChangeMaps
set_option maxRecDepth 100000
theorem ZLC {W:World} {s:ByteArray} {v u:Value} {x y:Am.P} (h:Am.RepP (Am.gOf W).pr W v x) (h':Am.RepP (Am.gOf W).pr W u y):Am.ZdP (Am.gOf W) W [.string s,v,u] [.one (.p (.str (Am.ZbJ s))),.one (.p x),.one (.p y)]:=by
 refine ⟨rfl,fun j u x hu hx=>?_⟩
 match j with
 | 0=>injection hu with hu;injection hx with hx;subst hu hx;exact Am.RepP.str _ _ rfl
 | 1=>injection hu with hu;injection hx with hx;subst hu hx;exact h
 | 2=>injection hu with hu;injection hx with hx;subst hu hx;exact h'
 | j+3=>simp at hu
def seen:List TypeId:=[3,9,31,60,41,56,177,40,38,57,80,58,81,43,37,53]
def ZNK: ∀t∈seen,Am.okSh Tryz.prog seen t=true:=List.all_eq_true.1 (by kernel_rfl)
def room {W:World}: ∀b o v,W.cell? ⟨b,o,none⟩=some v->o<(Am.gOf W).pr b:=fun b o v h=>by
 have h1:=Am.ZNV h;have h2:=Am.ZrY h;show o<if b<W.heap.size then 4294967296+Am.ZJP W b else 0
 rw [if_pos h2];omega
theorem ZLR {H:Type} {enc:TypeId×Value->H} {W:World} {fuel:Nat} {a:Option Addr} {len cap:Nat} {sp:Nat->Bool} {hd:Bool} {x:DataW H×List MemPlace} (h:DataW.trod enc Tryz.prog W 0 sp hd fuel 31 [.slice a len cap]=some x):
  ∃L:List Am.Fe.Cd,Am.RepP (Am.gOf W).pr W (.slice a len cap) (.sl 14 (L.map Am.Fe.Cd.row))/\Am.Fe.Ok Am.Fe.Cd.ok L:=by
 obtain ⟨xs,h1,h2⟩:=Am.ZNN (pr:=(Am.gOf W).pr) ZNK room fuel 31 _ x Zd h;obtain ⟨y,rfl⟩: ∃y,xs=[y]:=by
  have:=h1.1
  match xs,this with
  | [y],_=>exact ⟨y,rfl⟩
 obtain ⟨L,rfl,q⟩:=Am.Fe.ZIo (row:=Am.Fe.Cd.row) (p:=Am.Fe.Cd.ok) h2 Am.Fe.ZOB fun m' hm' r hr=>Am.Fe.ZOv hr;rw [Am.Fe.kcCd] at h1;exact ⟨L,h1.2 0 _ _ rfl rfl,q⟩
def walk (W:World) (s:ByteArray) {v u:Value} {a b:List Am.Fe.Cd} (hv:Am.RepP (Am.gOf W).pr W v (.sl 14 (a.map Am.Fe.Cd.row))) (hu:Am.RepP (Am.gOf W).pr W u (.sl 14 (b.map Am.Fe.Cd.row))) (ha:Am.Fe.Ok Am.Fe.Cd.ok a) (hb:Am.Fe.Ok Am.Fe.Cd.ok b)
  (htab:Lib.TabIs Tryz.prog W Am.ZhA .u64 Lib.pow10Tab) (hmax: ∃m,W.cell? ⟨0,0,none⟩=some (.int .i64 m)):
  Calls Tryz.prog 5 #[.string s,v,u] W fun e W'=>e= .returned (.bool true)/\Below W.heap.size W W':=
 Am.Zub (vs:=[.string s,v,u]) (b:=true) (Q:=fun rs _=>rs=[Am.Fe.pb true]) Am.Fe.ZOP (Am.Fe.ZNq (Am.Ztk s) ha hb) (fun _ _ h=>h)
  (by simp [Am.A.clean,Am.A.cells,Am.C.clean]) (ZLC hv hu) htab hmax
def ZvU (H:Type) (enc:TypeId×Value->H) (W:World) (base:Nat) (args:Array Value) (ds gs:List (DataW H)) (before:List MemPlace)
  (hval: ∀(j:Nat) t v,Tryz.f5.params[j]? =some t->args[j]? =some v->Value.okWide Tryz.prog W .any base t v)
  (hW:DataW.Whole enc Tryz.prog Tryz.f5.params.toList Rows.middleSameSpec.vars false W args.toList ds gs before) (hL:laidMetH Tryz.prog Rows.middleSameRow.laid W) (hS:W.ShapedOpen Tryz.prog):
  Calls Tryz.prog 5 args W fun e W'=> ∃v,e= .returned v/\Rows.middleSameSpec.post enc Tryz.prog Tryz.f5 false true false false W args v W':=by
 have hW':=hW;obtain ⟨p,q,hA0,hV,rfl,hfz,hnd⟩:=hW;have hA:DataW.TrodAll enc Tryz.prog W 0 (fun _=>true) true Tryz.f5.params.toList args.toList ds p:=hA0;rw [Tryz.params5] at hA hval;obtain ⟨v0,v1,v2,d0,d1,d2,p0,p1,p2,rfl,rfl,rfl,h0,h1,h2⟩:=trodAll_three hA;obtain ⟨rfl,rfl⟩:=trodVars_none hV;obtain ⟨s,rfl,rfl,rfl,hs⟩:=open_string Tryz.underlying9 (hval 0 9 v0 rfl rfl) h0;obtain ⟨a0,len,cap,rfl⟩:=okWide_slice Tryz.underlying31 (hval 1 31 v1 rfl rfl);obtain ⟨a1,len1,cap1,rfl⟩:=okWide_slice Tryz.underlying31 (hval 2 31 v2 rfl rfl);have h1k:=h1;have h2k:=h2;obtain ⟨f1,e1⟩:=h1;obtain ⟨f2,e2⟩:=h2;clear hA0;simp only [List.append_nil,YO] at hW';have hlt1: ∀x∈p1,x.block<W.heap.size:=fun x hx=>hW'.lt x (by simp [hx]);have hlt2: ∀x∈p2,x.block<W.heap.size:=fun x hx=>hW'.lt x (by simp [hx]);obtain ⟨L1,r1,q1⟩:=ZLR (a:=a0) (len:=len) (cap:=cap) e1;obtain ⟨L2,r2,q2⟩:=ZLR (a:=a1) (len:=len1) (cap:=cap1) e2;refine (walk W s r1 r2 q1 q2 (Tryz.tab_of_laid hL) (Tryz.max_of_shaped hS)).mono fun e W' ⟨he,hB⟩=>?_;subst he;exact ⟨_,rfl,_,_,_,[],_,[],hW',trodAll_cons_mk (shut_bool Tryz.underlying4 _) trodAll_mk0,trodAll_mk3 (shut_string Tryz.underlying9 hs) (Below.trod (by kernel_rfl) (by kernel_rfl) (of_decide_eq_true (by kernel_rfl)) h1k hB hlt1) (Below.trod (by kernel_rfl) (by kernel_rfl) (of_decide_eq_true (by kernel_rfl)) h2k hB hlt2),rfl,Zor hB _,fun h=>by cases h⟩
def Zv4 (os:Os):laidMetH Tryz.prog Rows.middleSameRow.laid ((Tryz.laidW os).forCall (fun _ _=>0) ⟨#[],#[.string ⟨#[]⟩,.slice none 0 0,.slice none 0 0],[]⟩).memory:=
 laidMetH_of_parts3 (fuel:=8) (laidMet_of_run' 8 (by kernel_rfl) (by kernel_rfl)) (by kernel_rfl) (by kernel_rfl)
def reads (os:Os) {H:Type} (enc:TypeId×Value->H): ∃places,DataW.whole enc Tryz.prog ((Tryz.laidW os).forCall (fun _ _=>0) ⟨#[],#[.string ⟨#[]⟩,.slice none 0 0,.slice none 0 0],[]⟩).memory Tryz.f5.params.toList Rows.middleSameSpec.vars false #[Value.string ⟨#[]⟩,.slice none 0 0,.slice none 0 0].toList 8=some ([.lit (.string []),.nil,.nil],[],places):=
 ⟨[],by kernel_rfl⟩
abbrev inp:Input:=⟨#[],#[.string ⟨#[]⟩,.slice none 0 0,.slice none 0 0],[]⟩
def ZB5 (os:Os):((Tryz.laidW os).forCall (fun _ _=>0) inp).variablesB Tryz.checked.prog=true:=by kernel_rfl
def ZBW (os:Os):(((Tryz.laidW os).forCall (fun _ _=>0) inp).heap.toList.drop Tryz.checked.prog.globals.size).take ((begin Tryz.checked.prog (fun _ _=>0) default).world.heap.size-Tryz.checked.prog.globals.size)=
 (begin Tryz.checked.prog (fun _ _=>0) default).world.heap.toList.drop Tryz.checked.prog.globals.size:=by kernel_rfl
def w_ok (os:Os):Input.okWideB Tryz.checked.prog ((Tryz.laidW os).forCall (fun _ _=>0) inp) 5 inp=true:=by kernel_rfl
def ZCa:Tryz.checked.prog.inits.idxOf? 5=none:=by kernel_rfl
def w_os (os:Os):(Tryz.laidW os).os=os:=rfl
def ZAP (os:Os) (started:os.Started) (H:Type) (enc:TypeId×Value->H) (F:Stop.Interp):
  ReturnsInHanded {} Tryz.checked os 5 .any ((OpenSpec.ofChange Rows.middleSameSpec).preRow enc Tryz.prog Tryz.f5 Rows.middleSameRow.domain false Rows.middleSameRow.laid) (((OpenSpec.ofChange Rows.middleSameSpec).at F).post enc Tryz.prog Tryz.f5 false true false false):=by
 obtain ⟨places,hx⟩:=reads os enc;refine returnsInHanded_of_row (C:=Tryz.checked) (s:=OpenSpec.ofChange Rows.middleSameSpec) Tryz.own started ZCa Tryz.func5
  (witness_row_at (enc:=enc) (C:=Tryz.checked) false (Tryz.laidW os) #[.string ⟨#[]⟩,.slice none 0 0,.slice none 0 0] (w_os os) (ZB5 os) (ZBW os) (w_ok os)
   (OpenSpec.preRow_of_cond 8 hx (by kernel_rfl) (fun k hk=>by cases hk) (by kernel_rfl) (Zv4 os))) ?_
 intro W base args ds gs before hval hW _ _ _ hL hS _;exact ZvU H enc W base args ds gs before hval hW hL hS
end Go.Proofs.YtcdjoaepciegnaaGreatDoor.middleSame
end
