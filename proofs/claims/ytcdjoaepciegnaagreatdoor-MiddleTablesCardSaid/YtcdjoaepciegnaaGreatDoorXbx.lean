/- Part. -/
import Derived.Test.YtcdjoaepciegnaaGreatDoorXbw
import Derived.Test.YtcdjoaepciegnaaGreatDoorXbv
set_option maxRecDepth 999999
set_option maxHeartbeats 0
set_option linter.all false
section
namespace Go.Proofs.YtcdjoaepciegnaaGreatDoor.middleTables
open Go.ChangeShapes Go.WideShapes Go.ChangeAt Go.RowKit Go.WideElems Go.WideMaps Go.ChangeMaps
set_option maxRecDepth 100000
def walk (W:World) (s:ByteArray) (htab:Lib.TabIs Tryz.prog W Am.ZhA .u64 Lib.pow10Tab) (hmax: ∃m,W.cell? ⟨0,0,none⟩=some (.int .i64 m)):
  Calls Tryz.prog 3 #[.string s] W fun e w'=>e= .returned (.bool true)/\Below W.heap.size W w':=
 Am.Zub (args:=[s].map fun b=> .one (.p (.str (Am.ZbJ b)))) (vs:=[s].map Value.string) (b:=true) (Q:=fun rs _=>rs=[Am.Fe.pb true]) Am.Fe.ZNj (Am.Fe.ZLj (Am.Ztk s)) (fun _ _ h=>h)
  (by simp [Am.A.clean,Am.A.cells,Am.C.clean]) Am.ZKh htab hmax
def ZvU (H:Type) (enc:TypeId×Value->H) (W:World) (base:Nat) (args:Array Value) (ds gs:List (DataW H)) (before:List MemPlace)
  (hval: ∀(j:Nat) t v,Tryz.f3.params[j]? =some t->args[j]? =some v->Value.okWide Tryz.prog W .any base t v)
  (hW:DataW.Whole enc Tryz.prog Tryz.f3.params.toList Rows.middleTablesSpec.vars false W args.toList ds gs before) (hL:laidMetH Tryz.prog Rows.middleTablesRow.laid W) (hS:W.ShapedOpen Tryz.prog):
  Calls Tryz.prog 3 args W fun e W'=> ∃v,e= .returned v/\Rows.middleTablesSpec.post enc Tryz.prog Tryz.f3 false true false false W args v W':=by
 have hW':=hW
 obtain ⟨p,q,hA0,hV,rfl,hfz,hnd⟩:=hW
 have hA:DataW.TrodAll enc Tryz.prog W 0 (fun _=>true) true Tryz.f3.params.toList args.toList ds p:=hA0
 rw [Tryz.params3] at hA hval
 obtain ⟨v0,d0,rfl,rfl,h0⟩:=trodAll_one hA
 obtain ⟨rfl,rfl⟩:=trodVars_none hV
 obtain ⟨s,rfl,rfl,rfl,hs⟩:=open_string Tryz.underlying9 (hval 0 9 v0 rfl rfl) h0
 clear hA0
 try simp only [List.append_nil] at hW'
 refine (walk W s (Tryz.tab_of_laid hL) (Tryz.max_of_shaped hS)).mono fun e W' ⟨he,hB⟩=>?_
 subst he
 exact ⟨_,rfl,ZvX hW' (fun _ _ _=>trodAll_cons_mk (shut_bool Tryz.underlying4 _) trodAll_mk0) (fun _=>trodAll_mk1 (shut_string Tryz.underlying9 hs)) (fun _=>rfl)
  (Zor hB _) (ok_one (by kernel_rfl) rfl (okWide_bool_mk Tryz.underlying4 _))⟩
def Zv4 (os:Os):laidMetH Tryz.prog Rows.middleTablesRow.laid ((Tryz.laidW os).forCall (fun _ _=>0) ⟨#[],#[.string ⟨#[]⟩],[]⟩).memory:=
 laidMetH_of_parts3 (fuel:=8) (laidMet_of_run' 8 (by kernel_rfl) (by kernel_rfl)) (by kernel_rfl) (by kernel_rfl)
def reads (os:Os) {H:Type} (enc:TypeId×Value->H): ∃places,DataW.whole enc Tryz.prog ((Tryz.laidW os).forCall (fun _ _=>0) ⟨#[],#[.string ⟨#[]⟩],[]⟩).memory Tryz.f3.params.toList Rows.middleTablesSpec.vars false #[Value.string ⟨#[]⟩].toList 8=some ([.lit (.string [])],[],places):=
 ⟨[],by kernel_rfl⟩
abbrev inp:Input:=⟨#[],#[.string ⟨#[]⟩],[]⟩
def ZB5 (os:Os):((Tryz.laidW os).forCall (fun _ _=>0) inp).variablesB Tryz.checked.prog=true:=by kernel_rfl
def ZBW (os:Os):(((Tryz.laidW os).forCall (fun _ _=>0) inp).heap.toList.drop Tryz.checked.prog.globals.size).take ((begin Tryz.checked.prog (fun _ _=>0) default).world.heap.size-Tryz.checked.prog.globals.size)=
 (begin Tryz.checked.prog (fun _ _=>0) default).world.heap.toList.drop Tryz.checked.prog.globals.size:=by kernel_rfl
def w_ok (os:Os):Input.okWideB Tryz.checked.prog ((Tryz.laidW os).forCall (fun _ _=>0) inp) 3 inp=true:=by kernel_rfl
def ZCa:Tryz.checked.prog.inits.idxOf? 3=none:=by kernel_rfl
def w_os (os:Os):(Tryz.laidW os).os=os:=rfl
def ZAP (os:Os) (started:os.Started) (H:Type) (enc:TypeId×Value->H) (F:Stop.Interp):
  ReturnsInHanded {} Tryz.checked os 3 .any ((OpenSpec.ofChange Rows.middleTablesSpec).preRow enc Tryz.prog Tryz.f3 Rows.middleTablesRow.domain false Rows.middleTablesRow.laid) (((OpenSpec.ofChange Rows.middleTablesSpec).at F).post enc Tryz.prog Tryz.f3 false true false false):=by
 obtain ⟨places,hx⟩:=reads os enc
 refine returnsInHanded_of_row (C:=Tryz.checked) (s:=OpenSpec.ofChange Rows.middleTablesSpec) Tryz.own started ZCa Tryz.func3
  (witness_row_at (enc:=enc) (C:=Tryz.checked) false (Tryz.laidW os) #[.string ⟨#[]⟩] (w_os os) (ZB5 os) (ZBW os) (w_ok os)
   (OpenSpec.preRow_of_cond 8 hx (by kernel_rfl) (fun k hk=>by cases hk) (by kernel_rfl) (Zv4 os))) ?_
 intro W base args ds gs before hval hW _ _ _ hL hS _
 exact ZvU H enc W base args ds gs before hval hW hL hS
end Go.Proofs.YtcdjoaepciegnaaGreatDoor.middleTables
end
