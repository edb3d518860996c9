/- Part. -/
import Derived.Test.YtmofclmogldnjaaGreatDoorMbz
import Derived.Test.YtmofclmogldnjaaGreatDoorMbg
import Derived.Test.YtmofclmogldnjaaGreatDoorMby
import Derived.SliceStrings
import Derived.Carry
set_option maxRecDepth 999999
set_option maxHeartbeats 0
set_option linter.all false
section
namespace Go.Proofs.YtmofclmogldnjaaGreatDoor.metaEntries
open Go.ChangeShapes Go.WideShapes Go.ChangeAt Go.RowKit Go.WideElems Go.WideMaps Go.ChangeMaps
set_option maxRecDepth 100000
theorem ZLt {W:World} {s m:ByteArray} {cs:Array Value} {xs:List Am.P} (h:Am.RepL (Am.gOf W).pr W cs.toList xs):Am.ZdP (Am.gOf W) W [.string s,.agg cs,.string m] [.one (.p (.str (Am.ZbJ s))),.agg (xs.map .p),.one (.p (.str (Am.ZbJ m)))]:=by
 refine ⟨rfl,fun j u x hu hx=>?_⟩
 match j with
 | 0=>injection hu with hu;injection hx with hx;subst hu hx;exact Am.RepP.str _ _ rfl
 | 1=>
   injection hu with hu;injection hx with hx;subst hu hx;refine ⟨cs,rfl,by simp [h.1],fun i u x hu hx=>?_⟩;simp only [Yn,YG] at hx;obtain ⟨y,hy,rfl⟩:=hx;exact h.2 i u y hu hy
 | 2=>injection hu with hu;injection hx with hx;subst hu hx;exact Am.RepP.str _ _ rfl
 | j+3=>simp at hu
def seen:List TypeId:=[3,9,22,24,25,27,28,29,31]
def ZNv: ∀t∈seen,Am.okSh Tryz.prog seen t=true:=List.all_eq_true.1 (by kernel_rfl)
def room {W:World}: ∀b o v,W.cell? ⟨b,o,none⟩=some v->o<(Am.gOf W).pr b:=fun b o v h=>by
 have h1:=Am.ZNH h;have h2:=Am.ZrY h;show o<if b<W.heap.size then 4294967296+Am.ZJp W b else 0
 rw [if_pos h2];omega
def ZMN {H:Type} {enc:TypeId×Value->H} {W:World} {fuel:Nat} {cs:List Value} {sp:Nat->Bool} {hd:Bool} {x:DataW H×List MemPlace} (h:DataW.trod enc Tryz.prog W 0 sp hd fuel 31 cs=some x):
  ∃y:Am.Fe.Ta,Am.RepL (Am.gOf W).pr W cs y.row/\y.ok:=by
 obtain ⟨xs,h1,h2⟩:=Am.ZNJ (pr:=(Am.gOf W).pr) ZNv room fuel 31 _ x Zd h;obtain ⟨y,rfl,q⟩:=Am.Fe.ZOn h2;exact ⟨y,h1,q⟩
def walk (W:World) (s m:ByteArray) {cs:Array Value} {x:Am.Fe.Ta} (hv:Am.RepL (Am.gOf W).pr W cs.toList x.row) (hx:x.ok)
  (htab:Lib.TabIs Tryz.prog W Am.ZhA .u64 Lib.pow10Tab) (hmax: ∃m,W.cell? ⟨0,0,none⟩=some (.int .i64 m)):
  Calls Tryz.prog 3 #[.string s,.agg cs,.string m] W fun e W'=>e= .returned (.bool true)/\Below W.heap.size W W':=
 Am.Zub (vs:=[.string s,.agg cs,.string m]) (b:=true) (Q:=fun rs _=>rs=[Am.Fe.pb true]) Am.Fe.ZOq (Am.Fe.ZOc (Am.Ztk s) hx) (fun _ _ h=>h)
  (by simp [Am.A.clean,Am.A.cells,Am.C.clean]) (ZLt hv) htab hmax
def ZvU (H:Type) (enc:TypeId×Value->H) (W:World) (base:Nat) (args:Array Value) (ds gs:List (DataW H)) (before:List MemPlace)
  (hval: ∀(j:Nat) t v,Tryz.f3.params[j]? =some t->args[j]? =some v->Value.okWide Tryz.prog W .any base t v)
  (hW:DataW.Whole enc Tryz.prog Tryz.f3.params.toList Rows.metaEntriesSpec.vars false W args.toList ds gs before) (hL:laidMetH Tryz.prog Rows.metaEntriesRow.laid W) (hS:W.ShapedOpen Tryz.prog):
  Calls Tryz.prog 3 args W fun e W'=> ∃v,e= .returned v/\Rows.metaEntriesSpec.post enc Tryz.prog Tryz.f3 false true false false W args v W':=by
 have hW':=hW;obtain ⟨p,q,hA0,hV,rfl,hfz,hnd⟩:=hW;have hA:DataW.TrodAll enc Tryz.prog W 0 (fun _=>true) true Tryz.f3.params.toList args.toList ds p:=hA0;rw [Tryz.params3] at hA hval;obtain ⟨v0,v1,v2,d0,d1,d2,p0,p1,p2,rfl,rfl,rfl,h0,h1,h2⟩:=trodAll_three hA;obtain ⟨rfl,rfl⟩:=trodVars_none hV;obtain ⟨s,rfl,rfl,rfl,hs⟩:=open_string Tryz.underlying9 (hval 0 9 v0 rfl rfl) h0;obtain ⟨m,rfl,rfl,rfl,hm⟩:=open_string Tryz.underlying9 (hval 2 9 v2 rfl rfl) h2;obtain ⟨cs,rfl,hcs⟩:=okWide_struct Tryz.underlying31 (hval 1 31 v1 rfl rfl);have h1k:=h1;obtain ⟨f1,e1⟩:=h1;clear hA0;simp only [List.append_nil,YP] at hW';have hlt1: ∀x∈p1,x.block<W.heap.size:=fun x hx=>hW'.lt x (by simp [hx]);obtain ⟨x,r1,q1⟩:=ZMN (cs:=cs.toList) e1;refine (walk W s m r1 q1 (Tryz.tab_of_laid hL) (Tryz.max_of_shaped hS)).mono fun e W' ⟨he,hB⟩=>?_;subst he;exact ⟨_,rfl,_,_,_,[],_,[],hW',trodAll_cons_mk (shut_bool Tryz.underlying4 _) trodAll_mk0,trodAll_mk3 (shut_string Tryz.underlying9 hs) (Below.trod (by kernel_rfl) (by kernel_rfl) (of_decide_eq_true (by kernel_rfl)) h1k hB hlt1) (shut_string Tryz.underlying9 hm),rfl,Zor hB _,fun h=>by cases h⟩
def Zv4 (os:Os):laidMetH Tryz.prog Rows.metaEntriesRow.laid ((Tryz.laidW os).forCall (fun _ _=>0) ⟨#[],#[.string ⟨#[]⟩,.agg #[.int .i64 0,.string ⟨#[]⟩,.int .i64 0,.slice none 0 0,.string ⟨#[]⟩,.int .i64 0,.slice none 0 0,.slice none 0 0,.slice none 0 0,.slice none 0 0],.string ⟨#[]⟩],[]⟩).memory:=
 laidMetH_of_parts3 (fuel:=8) (laidMet_of_run' 8 (by kernel_rfl) (by kernel_rfl)) (by kernel_rfl) (by kernel_rfl)
def reads (os:Os) {H:Type} (enc:TypeId×Value->H): ∃places,DataW.whole enc Tryz.prog ((Tryz.laidW os).forCall (fun _ _=>0) ⟨#[],#[.string ⟨#[]⟩,.agg #[.int .i64 0,.string ⟨#[]⟩,.int .i64 0,.slice none 0 0,.string ⟨#[]⟩,.int .i64 0,.slice none 0 0,.slice none 0 0,.slice none 0 0,.slice none 0 0],.string ⟨#[]⟩],[]⟩).memory Tryz.f3.params.toList Rows.metaEntriesSpec.vars false #[Value.string ⟨#[]⟩,.agg #[.int .i64 0,.string ⟨#[]⟩,.int .i64 0,.slice none 0 0,.string ⟨#[]⟩,.int .i64 0,.slice none 0 0,.slice none 0 0,.slice none 0 0,.slice none 0 0],.string ⟨#[]⟩].toList 8=some ([.lit (.string []),.agg [.agg [.lit (.int .i64 0),.lit (.string []),.lit (.int .i64 0),.nil],.lit (.string []),.agg [.lit (.int .i64 0),.nil,.nil],.nil,.nil],.lit (.string [])],[],places):=
 ⟨[],by kernel_rfl⟩
abbrev inp:Input:=⟨#[],#[.string ⟨#[]⟩,.agg #[.int .i64 0,.string ⟨#[]⟩,.int .i64 0,.slice none 0 0,.string ⟨#[]⟩,.int .i64 0,.slice none 0 0,.slice none 0 0,.slice none 0 0,.slice none 0 0],.string ⟨#[]⟩],[]⟩
def ZB5 (os:Os):((Tryz.laidW os).forCall (fun _ _=>0) inp).variablesB Tryz.checked.prog=true:=by kernel_rfl
def ZBW (os:Os):(((Tryz.laidW os).forCall (fun _ _=>0) inp).heap.toList.drop Tryz.checked.prog.globals.size).take ((begin Tryz.checked.prog (fun _ _=>0) default).world.heap.size-Tryz.checked.prog.globals.size)=
 (begin Tryz.checked.prog (fun _ _=>0) default).world.heap.toList.drop Tryz.checked.prog.globals.size:=by kernel_rfl
def w_ok (os:Os):Input.okWideB Tryz.checked.prog ((Tryz.laidW os).forCall (fun _ _=>0) inp) 3 inp=true:=by kernel_rfl
def ZCa:Tryz.checked.prog.inits.idxOf? 3=none:=by kernel_rfl
def w_os (os:Os):(Tryz.laidW os).os=os:=rfl
def ZAP (os:Os) (started:os.Started) (H:Type) (enc:TypeId×Value->H) (F:Stop.Interp):
  ReturnsInHanded {} Tryz.checked os 3 .any ((OpenSpec.ofChange Rows.metaEntriesSpec).preRow enc Tryz.prog Tryz.f3 Rows.metaEntriesRow.domain false Rows.metaEntriesRow.laid) (((OpenSpec.ofChange Rows.metaEntriesSpec).at F).post enc Tryz.prog Tryz.f3 false true false false):=by
 obtain ⟨places,hx⟩:=reads os enc;refine returnsInHanded_of_row (C:=Tryz.checked) (s:=OpenSpec.ofChange Rows.metaEntriesSpec) Tryz.own started ZCa Tryz.func3
  (witness_row_at (enc:=enc) (C:=Tryz.checked) false (Tryz.laidW os) #[.string ⟨#[]⟩,.agg #[.int .i64 0,.string ⟨#[]⟩,.int .i64 0,.slice none 0 0,.string ⟨#[]⟩,.int .i64 0,.slice none 0 0,.slice none 0 0,.slice none 0 0,.slice none 0 0],.string ⟨#[]⟩] (w_os os) (ZB5 os) (ZBW os) (w_ok os)
   (OpenSpec.preRow_of_cond 8 hx (by kernel_rfl) (fun k hk=>by cases hk) (by kernel_rfl) (Zv4 os))) ?_
 intro W base args ds gs before hval hW _ _ _ hL hS _;exact ZvU H enc W base args ds gs before hval hW hL hS
end Go.Proofs.YtmofclmogldnjaaGreatDoor.metaEntries
end
