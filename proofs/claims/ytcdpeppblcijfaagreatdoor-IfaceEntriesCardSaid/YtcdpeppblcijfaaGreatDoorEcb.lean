/- Part. -/
import Derived.Test.YtcdpeppblcijfaaGreatDoorEbz
import Derived.Test.YtcdpeppblcijfaaGreatDoorEca
import Derived.SliceStrings
import Derived.Carry
set_option maxRecDepth 999999
set_option maxHeartbeats 0
set_option linter.all false
section
namespace Go.Proofs.YtcdpeppblcijfaaGreatDoor.ifaceEntries
open Go.ChangeShapes Go.WideShapes Go.ChangeAt Go.RowKit Go.WideElems Go.WideMaps Go.ChangeMaps
set_option maxRecDepth 100000
theorem ZFX {W:World} {s t:ByteArray} {v:Value} {ns:List (List Nat)} (h:Am.RepP (Am.gOf W).pr W v (.sl 1 (Am.Fe.strs ns))):Am.ZdP (Am.gOf W) W [.string s,.string t,v] [.one (.p (.str (Am.ZbJ s))),.one (.p (.str (Am.ZbJ t))),.one (.p (.sl 1 (Am.Fe.strs ns)))]:=by
 refine ⟨rfl,fun j u x hu hx=>?_⟩
 match j with
 | 0=>injection hu with hu;injection hx with hx;subst hu hx;exact Am.RepP.str _ _ rfl
 | 1=>injection hu with hu;injection hx with hx;subst hu hx;exact Am.RepP.str _ _ rfl
 | 2=>injection hu with hu;injection hx with hx;subst hu hx;exact h
 | j+3=>simp at hu
def walk (W:World) (s t:ByteArray) {v:Value} {ns:List (List Nat)} (hv:Am.RepP (Am.gOf W).pr W v (.sl 1 (Am.Fe.strs ns))) (htab:Lib.TabIs Tryz.prog W Am.ZhA .u64 Lib.pow10Tab) (hmax: ∃m,W.cell? ⟨0,0,none⟩=some (.int .i64 m)):
  Calls Tryz.prog 7 #[.string s,.string t,v] W fun e w'=>e= .returned (.bool true)/\Below W.heap.size W w':=
 Am.Zub (vs:=[.string s,.string t,v]) (b:=true) (Q:=fun rs _=>rs=[Am.Fe.pb true]) Am.Fe.ZKz (Am.Fe.ZFY (Am.Ztk s) (Am.Ztk t)) (fun _ _ h=>h)
  (by simp [Am.A.clean,Am.A.cells,Am.C.clean]) (ZFX hv) htab hmax
def ZvU (H:Type) (enc:TypeId×Value->H) (W:World) (base:Nat) (args:Array Value) (ds gs:List (DataW H)) (before:List MemPlace)
  (hval: ∀(j:Nat) t v,Tryz.f7.params[j]? =some t->args[j]? =some v->Value.okWide Tryz.prog W .any base t v)
  (hW:DataW.Whole enc Tryz.prog Tryz.f7.params.toList Rows.ifaceEntriesSpec.vars false W args.toList ds gs before) (hL:laidMetH Tryz.prog Rows.ifaceEntriesRow.laid W) (hS:W.ShapedOpen Tryz.prog):
  Calls Tryz.prog 7 args W fun e W'=> ∃v,e= .returned v/\Rows.ifaceEntriesSpec.post enc Tryz.prog Tryz.f7 false true false false W args v W':=by
 have hW':=hW
 obtain ⟨p,q,hA0,hV,rfl,hfz,hnd⟩:=hW
 have hA:DataW.TrodAll enc Tryz.prog W 0 (fun _=>true) true Tryz.f7.params.toList args.toList ds p:=hA0
 rw [Tryz.params7] at hA hval
 obtain ⟨v0,v1,v2,d0,d1,d2,p0,p1,p2,rfl,rfl,rfl,h0,h1,h2⟩:=trodAll_three hA
 obtain ⟨rfl,rfl⟩:=trodVars_none hV
 obtain ⟨s,rfl,rfl,rfl,hs⟩:=open_string Tryz.underlying9 (hval 0 9 v0 rfl rfl) h0
 obtain ⟨t,rfl,rfl,rfl,ht⟩:=open_string Tryz.underlying9 (hval 1 9 v1 rfl rfl) h1
 obtain ⟨a0,len,cap,rfl⟩:=okWide_slice Tryz.underlying32 (hval 2 32 v2 rfl rfl)
 have h2k:=h2
 obtain ⟨fuel,hf⟩:=h2
 clear hA0
 simp only [List.append_nil,YO] at hW'
 have hlt: ∀x∈p2,x.block<W.heap.size:=fun x hx=>by simpa using hW'.lt x hx
 have fin: ∀e W',(e=Ending.returned (.bool true)/\Below W.heap.size W W')-> ∃v,e= .returned v/\Rows.ifaceEntriesSpec.post enc Tryz.prog Tryz.f7 false true false false W #[.string s,.string t,.slice a0 len cap] v W':=by
  intro e W' ⟨he,hB⟩
  subst he
  exact ⟨_,rfl,_,_,_,[],_,[],hW',trodAll_cons_mk (shut_bool Tryz.underlying4 _) trodAll_mk0,trodAll_mk3 (shut_string Tryz.underlying9 hs) (shut_string Tryz.underlying9 ht) (Below.trod (by kernel_rfl) (by kernel_rfl) (of_decide_eq_true (by kernel_rfl)) h2k hB hlt),rfl,Zor hB _,fun h=>by cases h⟩
 rcases open_strings Tryz.underlying32 Tryz.underlying9 (by kernel_rfl) hf with ⟨hcs,hx⟩|⟨a,len',cap',ss,hcs,_,hl,hm,hz,hx,hcell,hws⟩
 ·simp [Value.cells] at hcs
  obtain ⟨rfl,rfl,rfl⟩:=hcs
  exact (walk W s t (ns:=[]) (Am.RepP.nils none 0 1) (Tryz.tab_of_laid hL) (Tryz.max_of_shaped hS)).mono fin
 ·simp [Value.cells] at hcs
  obtain ⟨rfl,rfl,rfl⟩:=hcs
  simp only [if_true] at hz
  by_cases hl0:len=0
  ·subst hl0
   exact (walk W s t (ns:=[]) (Am.RepP.nils (some a) cap 1) (Tryz.tab_of_laid hL) (Tryz.max_of_shaped hS)).mono fin
  ·obtain ⟨b,off,spot⟩:=a
   have hspot:spot=none:=by simpa [Addr.add] using World.cell?_spot (hcell 0 Zo)
   subst hspot
   exact (walk W s t (Am.ZGq hl Zo Zo (ss:=ss) fun i hi=>by rw [<-add_plain];exact hcell i Zo) (Tryz.tab_of_laid hL) (Tryz.max_of_shaped hS)).mono fin
def Zv4 (os:Os):laidMetH Tryz.prog Rows.ifaceEntriesRow.laid ((Tryz.laidW os).forCall (fun _ _=>0) ⟨#[],#[.string ⟨#[]⟩,.string ⟨#[]⟩,.slice none 0 0],[]⟩).memory:=
 laidMetH_of_parts3 (fuel:=8) (laidMet_of_run' 8 (by kernel_rfl) (by kernel_rfl)) (by kernel_rfl) (by kernel_rfl)
def reads (os:Os) {H:Type} (enc:TypeId×Value->H): ∃places,DataW.whole enc Tryz.prog ((Tryz.laidW os).forCall (fun _ _=>0) ⟨#[],#[.string ⟨#[]⟩,.string ⟨#[]⟩,.slice none 0 0],[]⟩).memory Tryz.f7.params.toList Rows.ifaceEntriesSpec.vars false #[Value.string ⟨#[]⟩,.string ⟨#[]⟩,.slice none 0 0].toList 8=some ([.lit (.string []),.lit (.string []),.nil],[],places):=
 ⟨[],by kernel_rfl⟩
abbrev inp:Input:=⟨#[],#[.string ⟨#[]⟩,.string ⟨#[]⟩,.slice none 0 0],[]⟩
def ZB5 (os:Os):((Tryz.laidW os).forCall (fun _ _=>0) inp).variablesB Tryz.checked.prog=true:=by kernel_rfl
def ZBW (os:Os):(((Tryz.laidW os).forCall (fun _ _=>0) inp).heap.toList.drop Tryz.checked.prog.globals.size).take ((begin Tryz.checked.prog (fun _ _=>0) default).world.heap.size-Tryz.checked.prog.globals.size)=
 (begin Tryz.checked.prog (fun _ _=>0) default).world.heap.toList.drop Tryz.checked.prog.globals.size:=by kernel_rfl
def w_ok (os:Os):Input.okWideB Tryz.checked.prog ((Tryz.laidW os).forCall (fun _ _=>0) inp) 7 inp=true:=by kernel_rfl
def ZCa:Tryz.checked.prog.inits.idxOf? 7=none:=by kernel_rfl
def w_os (os:Os):(Tryz.laidW os).os=os:=rfl
def ZAP (os:Os) (started:os.Started) (H:Type) (enc:TypeId×Value->H) (F:Stop.Interp):
  ReturnsInHanded {} Tryz.checked os 7 .any ((OpenSpec.ofChange Rows.ifaceEntriesSpec).preRow enc Tryz.prog Tryz.f7 Rows.ifaceEntriesRow.domain false Rows.ifaceEntriesRow.laid) (((OpenSpec.ofChange Rows.ifaceEntriesSpec).at F).post enc Tryz.prog Tryz.f7 false true false false):=by
 obtain ⟨places,hx⟩:=reads os enc
 refine returnsInHanded_of_row (C:=Tryz.checked) (s:=OpenSpec.ofChange Rows.ifaceEntriesSpec) Tryz.own started ZCa Tryz.func7
  (witness_row_at (enc:=enc) (C:=Tryz.checked) false (Tryz.laidW os) #[.string ⟨#[]⟩,.string ⟨#[]⟩,.slice none 0 0] (w_os os) (ZB5 os) (ZBW os) (w_ok os)
   (OpenSpec.preRow_of_cond 8 hx (by kernel_rfl) (fun k hk=>by cases hk) (by kernel_rfl) (Zv4 os))) ?_
 intro W base args ds gs before hval hW _ _ _ hL hS _
 exact ZvU H enc W base args ds gs before hval hW hL hS
end Go.Proofs.YtcdpeppblcijfaaGreatDoor.ifaceEntries
end
