/- Part. -/
import Derived.Test.YtmofclmogldnjaaGreatDoorMbx
import Derived.Test.YtmofclmogldnjaaGreatDoorMbs
import Derived.Test.YtmofclmogldnjaaGreatDoorMau
set_option maxRecDepth 999999
set_option maxHeartbeats 0
set_option linter.all false
section
namespace Go.Am.Fe
open Go.Proofs
set_option maxRecDepth 1000000
def addP (f:Nat) (p:List A->List (List C)->Option (List A×List (List C))) (S:Nat->Option Fn):Nat->Option Fn:=fun g=>match Nat.beq f g with
 | true=>some (.prim p)
 | false=>S g
def ZjQ {f:Nat} {p:List A->List (List C)->Option (List A×List (List C))} {S:Nat->Option Fn} (h:Zf2 Tryz.prog f p) (hS:FnOK Tryz.prog S):FnOK Tryz.prog (addP f p S):=fun g=>by
 unfold addP;cases hb:Nat.beq f g with
 | true=>
   have:=Nat.eq_of_beq_eq_true hb;subst this;exact h
 | false=>exact hS g
def cren (f sl el:Nat):Go.Shelf.Ren:=⟨fun|41=>f|n=>n,fun|22=>sl|23=>el|4=>4|n=>n,fun|n=>n⟩
def clT:ClT (cren 37 22 24) 4 where
 L:={mixed:=by kernel_rfl,f41:=⟨Tryz.f37.name,by decide,Tryz.func37.trans (congrArg some (by kernel_rfl))⟩,t4:=Tryz.underlying4,a4:=Tryz.isAgg4,z4:=Tryz.sizeOf4,v4:=Tryz.zeroValue4,t22:=Tryz.underlying22,a22:=Tryz.isAgg22,z22:=Tryz.sizeOf22,v22:=Tryz.zeroValue22}
 e:=by kernel_rfl
 i:=⟨_,_,rfl,rfl,by kernel_rfl,of_decide_eq_true (by kernel_rfl),by kernel_rfl⟩
 hs:=by decide
 z:=Tryz.sizeOf24
def awP (args:List A) (os:List (List C)):Option (List A×List (List C)):=if args.isEmpty && os.isEmpty then some ([.one (.p (.bool true))],[]) else none
def ZN3:Zf2 Tryz.prog 7 awP:=Go.Cm.closed_prim Go.Cm.tabM_ok (by kernel_rfl) Go.Cm.awM
noncomputable def SB:Nat->Option Fn:=addP 7 awP (addP 37 (ZBS (cloP 4)) S2)
def ZOo:FnOK Tryz.prog SB:=ZjQ ZN3 (ZjQ (ZNk clT) ZDk)
def ZEQ {S:Nat->Option Fn} {f:Nat} {p:List A->Option (List A)} {args r:List A} {Q:List A->List (List C)->Prop} (e:S f=some (.prim (ZBS p))) (hp:p args=some r) (h:Q r []):Gives S f args [] Q:=by
 refine ⟨1,r,[],?_,h⟩;unfold call Zja;rw [e];simp [ZBS,hp]
def ZNj:List (Nat×SFunc):=[(ZHJ,ZH4),
 (ZHI,ZHZ),
 (Zfr,ZlX),
 (ZHk,ZHF),
 (ZfG,Zjb),
 (ZlD,ZDW),
 (ZiO,ZmM),
 (ZHb,ZHh),
 (ZHg,ZHz),
 (ZeB,ZHD),
 (Zdi,ZiC),
 (ZdC,Zq9),
 (ZgE,Zlg),
 (Ziw,ZHQ),
 (ZHa,ZHi),
 (ZHc,ZHn),
 (ZHp,ZHK),
 (ZH0,ZH3),
 (Zbx,ZcR),
 (ZIa,ZIH),
 (ZHG,ZIn),
 (ZIV,ZJt),
 (ZHe,ZHo),
 (ZHB,ZIs),
 (ZHw,ZHW),
 (ZcI,ZfB),
 (Zdb,Zk7),
 (ZgP,Zlh),
 (Zii,Znl),
 (Zin,Znr),
 (ZkQ,Zqd),
 (ZHr,ZIi),
 (ZHM,ZIg),
 (ZI9,ZJP),
 (ZHY,ZIK),
 (ZHs,ZIe),
 (ZG3,ZG6),
 (ZG2,ZG4),
 (ZHv,ZHV),
 (ZHt,ZIf),
 (ZIp,ZJ0),
 (ZHy,ZHA)]
def ZLW:ZNj.all (fun p=>ZiH Tryz.prog p.1 p.2)=true:=by kernel_rfl
noncomputable def SM:Nat->Option Fn:=look ZNj SB
def ZOq:FnOK Tryz.prog SM:=ZhB ZOo (ZnL ZLW)
def ZOg:Has SM:=by constructor<;>kernel_rfl
def ZMT:HasPr SM:=ZvV ZAX ZxB (by kernel_rfl)
def ZOv:HasL SM:=by constructor<;>kernel_rfl
def ZN1 {s:Nat} {l:List (List P)} (h:l.length<=2147483648):cloP s [.one (.p (.sl s l))]=some [.one (.p (.sl s l))]:=if_pos ⟨rfl,h⟩
def ZOu:HN SM 7 where
 toHasL:=ZOv
 clo:=fun hl h=>ZEQ (S:=SM) (f:=37) (p:=cloP 4) (by kernel_rfl) (ZN1 hl) h
 aw:=fun {Q} h=>by
  refine ⟨1,[pb true],[],?_,h⟩;have e:SM 7=some (.prim awP):=by kernel_rfl
  unfold call Zja;rw [e];rfl
def ZOc {src:List Nat} (hb:Byt src) {x:Ta} (hx:x.ok) {m:List Nat}:Gives SM ZHe [ps src,.agg (x.row.map .p),ps m] [] fun rs _=>rs=[pb true]:=
 ZID ZOg ZMT ZOu hb hx rfl
end Go.Am.Fe
end
