/- Part. -/
import Derived.Test.YtmofclmogldnjaaGreatDoorCbx
import Derived.Test.YtmofclmogldnjaaGreatDoorCau
set_option maxRecDepth 999999
set_option maxHeartbeats 0
set_option linter.all false
section
namespace Go.Am.Fe
open Go.Proofs
set_option maxRecDepth 1000000
def addP (f:Nat) (p:List A->List (List C)->Option (List A×List (List C))) (S:Nat->Option Fn):Nat->Option Fn:=fun g=>match Nat.beq f g with
 | true=>some (.prim p)
 | false=>S g
def ZjQ {f:Nat} {p:List A->List (List C)->Option (List A×List (List C))} {S:Nat->Option Fn} (h:Zf2 Tryz.prog f p) (hS:FnOK Tryz.prog S):FnOK Tryz.prog (addP f p S):=fun g=>by
 unfold addP;cases hb:Nat.beq f g with
 | true=>
   have:=qE hb;subst this;exact h
 | false=>exact hS g
def cren (f sl el:Nat):Go.Shelf.Ren:=⟨fun|41=>f|n=>n,fun|22=>sl|23=>el|4=>4|n=>n,fun|n=>n⟩
def clT:ClT (cren 37 22 24) 4 where
 L:={mixed:=by kernel_rfl,f41:=⟨Tryz.f37.name,by decide,Tryz.func37.trans (congrArg some (by kernel_rfl))⟩,t4:=Tryz.underlying4,a4:=Tryz.isAgg4,z4:=Tryz.sizeOf4,v4:=Tryz.zeroValue4,t22:=Tryz.underlying22,a22:=Tryz.isAgg22,z22:=Tryz.sizeOf22,v22:=Tryz.zeroValue22}
 e:=by kernel_rfl
 i:=⟨_,_,rfl,rfl,by kernel_rfl,of_decide_eq_true (by kernel_rfl),by kernel_rfl⟩
 hs:=by decide
 z:=Tryz.sizeOf24
def awP (args:List A) (os:List (List C)):Option (List A×List (List C)):=if args.isEmpty && os.isEmpty then some ([.one (.p (.bool true))],[]) else none
def ZNV:Zf2 Tryz.prog 14 awP:=Go.Cm.closed_prim Go.Cm.tabM_ok (by kernel_rfl) Go.Cm.awM
noncomputable def SB:Nat->Option Fn:=addP 14 awP (addP 37 (ZBS (cloP 4)) S2)
def ZOy:FnOK Tryz.prog SB:=ZjQ ZNV (ZjQ (ZNB clT) ZDk)
def ZEQ {S:Nat->Option Fn} {f:Nat} {p:List A->Option (List A)} {args r:List A} {Q:List A->List (List C)->Prop} (e:S f=some (.prim (ZBS p))) (hp:p args=some r) (h:Q r []):Gives S f args [] Q:=by
 refine ⟨1,r,[],?_,h⟩;unfold call Zja;rw [e];simp [ZBS,hp]
def ZNm:List (Nat×SFunc):=[(Zfr,ZlX),
 (Zbx,ZcR),
 (ZHu,ZH2),
 (ZHf,ZHF),
 (ZHm,ZHn),
 (ZcI,ZfB),
 (Zdb,Zk7),
 (Zin,Znr),
 (ZkQ,Zqd),
 (ZHa,ZHy),
 (ZHk,ZHA),
 (ZIc,ZIO),
 (ZHv,ZHI),
 (ZHd,ZHx),
 (ZG3,ZG5),
 (ZG2,ZG4),
 (ZHq,ZHp),
 (ZHc,ZHw),
 (ZHE,ZIG),
 (ZHb,ZHh)]
def ZLZ:ZNm.all (fun p=>ZiH Tryz.prog p.1 p.2)=true:=by kernel_rfl
noncomputable def SM:Nat->Option Fn:=look ZNm SB
def ZOG:FnOK Tryz.prog SM:=ZhB ZOy (ZnL ZLZ)
def ZOj:Has SM:=by constructor<;>kernel_rfl
def ZMM:HasPr SM:=ZvV ZAX ZxB (by kernel_rfl)
def ZOu:HasL SM:=by constructor<;>kernel_rfl
def ZOd {s:Nat} {l:List (List P)} (h:l.length<=2147483648):cloP s [.one (.p (.sl s l))]=some [.one (.p (.sl s l))]:=if_pos ⟨rfl,h⟩
def ZOC:HN SM 14 where
 toHasL:=ZOu
 clo:=fun hl h=>ZEQ (S:=SM) (f:=37) (p:=cloP 4) (by kernel_rfl) (ZOd hl) h
 aw:=fun {Q} h=>by
  refine ⟨1,[pb true],[],?_,h⟩;have e:SM 14=some (.prim awP):=by kernel_rfl
  unfold call Zja;rw [e];rfl
def ZOa {src:List Nat} (hb:Byt src) {w:Wi} (hw:w.fv) {q m:List Nat}:Gives SM ZHb [ps src,.agg w.cs,.agg [.p (.str q),.p (.str m)]] [] fun rs _=>rs=[pb true]:=
 ZHU ZOj ZMM ZOC hb hw rfl
end Go.Am.Fe
end
