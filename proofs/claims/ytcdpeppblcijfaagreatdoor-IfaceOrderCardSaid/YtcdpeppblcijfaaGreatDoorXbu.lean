/- Part. -/
import Derived.Test.YtcdpeppblcijfaaGreatDoorXbs
import Derived.Test.YtcdpeppblcijfaaGreatDoorXbt
set_option maxRecDepth 999999
set_option maxHeartbeats 0
set_option linter.all false
section
namespace Go.Proofs.YtcdpeppblcijfaaGreatDoor.ifaceOrder
open Go.ChangeShapes Go.WideShapes Go.ChangeAt Go.RowKit Go.WideElems Go.WideMaps Go.ChangeMaps
set_option maxRecDepth 100000
theorem ZHl {W:World} {s:ByteArray} {n:Int}:Am.ZdP (Am.gOf W) W [.string s,.int .i64 n] [.one (.p (.str (Am.ZbJ s))),.one (.p (.int .i64 n))]:=by
 refine ⟨rfl,fun j u x hu hx=>?_⟩
 match j with
 | 0=>injection hu with hu;injection hx with hx;subst hu hx;exact Am.RepP.str _ _ rfl
 | 1=>injection hu with hu;injection hx with hx;subst hu hx;exact Am.RepP.int _ _
 | j+2=>simp at hu
theorem walk (W:World) (s:ByteArray) (n:Int) (htab:Lib.TabIs Tryz.prog W Am.ZhA .u64 Lib.pow10Tab) (hmax: ∃m,W.cell? ⟨0,0,none⟩=some (.int .i64 m)):
  Calls Tryz.prog 5 #[.string s,.int .i64 n] W fun e w'=>e= .returned (.bool true)/\Below W.heap.size W w':=
 Am.Zub (vs:=[.string s,.int .i64 n]) (b:=true) (Q:=fun rs _=>rs=[Am.Fe.pb true]) Am.Fe.ZDd (Am.Fe.ZHp (Am.Ztk s)) (fun _ _ h=>h)
  (by simp [Am.A.clean,Am.A.cells,Am.C.clean]) ZHl htab hmax
theorem ZvU (H:Type) (enc:TypeId×Value->H) (W:World) (base:Nat) (args:Array Value) (ds gs:List (DataW H)) (before:List MemPlace)
  (hval: ∀(j:Nat) t v,Tryz.f5.params[j]? =some t->args[j]? =some v->Value.okWide Tryz.prog W .any base t v)
  (hW:DataW.Whole enc Tryz.prog Tryz.f5.params.toList Rows.ifaceOrderSpec.vars false W args.toList ds gs before) (hL:laidMetH Tryz.prog Rows.ifaceOrderRow.laid W) (hS:W.ShapedOpen Tryz.prog):
  Calls Tryz.prog 5 args W fun e W'=> ∃v,e= .returned v/\Rows.ifaceOrderSpec.post enc Tryz.prog Tryz.f5 false true false false W args v W':=by
 have hW':=hW
 obtain ⟨p,q,hA0,hV,rfl,hfz,hnd⟩:=hW
 have hA:DataW.TrodAll enc Tryz.prog W 0 (fun _=>true) true Tryz.f5.params.toList args.toList ds p:=hA0
 rw [Tryz.params5] at hA hval
 obtain ⟨v0,v1,d0,d1,p0,p1,rfl,rfl,rfl,h0,h1⟩:=trodAll_two hA
 obtain ⟨rfl,rfl⟩:=trodVars_none hV
 obtain ⟨s,rfl,rfl,rfl,hs⟩:=open_string Tryz.underlying9 (hval 0 9 v0 rfl rfl) h0
 obtain ⟨n,rfl,rfl,rfl,hn⟩:=open_int Tryz.underlying3 (hval 1 3 v1 rfl rfl) h1
 clear hA0
 simp only [List.append_nil] at hW'
 refine (walk W s n (Tryz.tab_of_laid hL) (Tryz.max_of_shaped hS)).mono fun e W' ⟨he,hB⟩=>?_
 subst he
 exact ⟨_,rfl,ZvX hW' (fun _ _ _=>trodAll_cons_mk (shut_bool Tryz.underlying4 _) trodAll_mk0) (fun _=>trodAll_mk2 (shut_string Tryz.underlying9 hs) (shut_int Tryz.underlying3 hn)) (fun _=>rfl)
  (Zor hB _) (ok_one (by kernel_rfl) rfl (okWide_bool_mk Tryz.underlying4 _))⟩
theorem Zv4 (os:Os):laidMetH Tryz.prog Rows.ifaceOrderRow.laid ((Tryz.laidW os).forCall (fun _ _=>0) ⟨#[],#[.string ⟨#[]⟩,.int .i64 0],[]⟩).memory:=
 laidMetH_of_parts3 (fuel:=8) (laidMet_of_run' 8 (by kernel_rfl) (by kernel_rfl)) (by kernel_rfl) (by kernel_rfl)
theorem reads (os:Os) {H:Type} (enc:TypeId×Value->H): ∃places,DataW.whole enc Tryz.prog ((Tryz.laidW os).forCall (fun _ _=>0) ⟨#[],#[.string ⟨#[]⟩,.int .i64 0],[]⟩).memory Tryz.f5.params.toList Rows.ifaceOrderSpec.vars false #[Value.string ⟨#[]⟩,.int .i64 0].toList 8=some ([.lit (.string []),.lit (.int .i64 0)],[],places):=
 ⟨[],by kernel_rfl⟩
abbrev inp:Input:=⟨#[],#[.string ⟨#[]⟩,.int .i64 0],[]⟩
theorem ZB5 (os:Os):((Tryz.laidW os).forCall (fun _ _=>0) inp).variablesB Tryz.checked.prog=true:=by kernel_rfl
theorem ZBW (os:Os):(((Tryz.laidW os).forCall (fun _ _=>0) inp).heap.toList.drop Tryz.checked.prog.globals.size).take ((begin Tryz.checked.prog (fun _ _=>0) default).world.heap.size-Tryz.checked.prog.globals.size)=
 (begin Tryz.checked.prog (fun _ _=>0) default).world.heap.toList.drop Tryz.checked.prog.globals.size:=by kernel_rfl
theorem w_ok (os:Os):Input.okWideB Tryz.checked.prog ((Tryz.laidW os).forCall (fun _ _=>0) inp) 5 inp=true:=by kernel_rfl
theorem ZCa:Tryz.checked.prog.inits.idxOf? 5=none:=by kernel_rfl
theorem w_os (os:Os):(Tryz.laidW os).os=os:=rfl
theorem ZAP (os:Os) (started:os.Started) (H:Type) (enc:TypeId×Value->H) (F:Stop.Interp):
  ReturnsInHanded {} Tryz.checked os 5 .any ((OpenSpec.ofChange Rows.ifaceOrderSpec).preRow enc Tryz.prog Tryz.f5 Rows.ifaceOrderRow.domain false Rows.ifaceOrderRow.laid) (((OpenSpec.ofChange Rows.ifaceOrderSpec).at F).post enc Tryz.prog Tryz.f5 false true false false):=by
 obtain ⟨places,hx⟩:=reads os enc
 refine returnsInHanded_of_row (C:=Tryz.checked) (s:=OpenSpec.ofChange Rows.ifaceOrderSpec) Tryz.own started ZCa Tryz.func5
  (witness_row_at (enc:=enc) (C:=Tryz.checked) false (Tryz.laidW os) #[.string ⟨#[]⟩,.int .i64 0] (w_os os) (ZB5 os) (ZBW os) (w_ok os)
   (OpenSpec.preRow_of_cond 8 hx (by kernel_rfl) (fun k hk=>by cases hk) (by kernel_rfl) (Zv4 os))) ?_
 intro W base args ds gs before hval hW _ _ _ hL hS _
 exact ZvU H enc W base args ds gs before hval hW hL hS
end Go.Proofs.YtcdpeppblcijfaaGreatDoor.ifaceOrder
end
