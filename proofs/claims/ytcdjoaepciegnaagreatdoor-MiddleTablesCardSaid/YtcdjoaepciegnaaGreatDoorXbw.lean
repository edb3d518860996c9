/- Part. -/
import Derived.Test.YtcdjoaepciegnaaGreatDoorXbu
import Derived.Test.YtcdjoaepciegnaaGreatDoorXbn
import Derived.Test.YtcdjoaepciegnaaGreatDoorXau
set_option maxRecDepth 999999
set_option maxHeartbeats 0
set_option linter.all false
section
namespace Go.Am.Fe
open Go.Proofs
set_option maxRecDepth 1000000
def addP (f:Nat) (p:List A->List (List C)->Option (List A×List (List C))) (S:Nat->Option Fn):Nat->Option Fn:=fun g=>match Nat.beq f g with
 | true=>some (.prim p)
 | false=>S g
def ZjQ {f:Nat} {p:List A->List (List C)->Option (List A×List (List C))} {S:Nat->Option Fn} (h:Zf2 Tryz.prog f p) (hS:FnOK Tryz.prog S):FnOK Tryz.prog (addP f p S):=fun g=>by
 unfold addP
 cases hb:Nat.beq f g with
 | true=>
   have:=Nat.eq_of_beq_eq_true hb
   subst this
   exact h
 | false=>exact hS g
def cren (f sl el:Nat):Go.Shelf.Ren:=⟨fun|41=>f|n=>n,fun|22=>sl|23=>el|4=>4|n=>n,fun|n=>n⟩
def clN:ClT (cren 33 22 88) 17 where
 L:={mixed:=by kernel_rfl,f41:=⟨Tryz.f33.name,by decide,Tryz.func33.trans (congrArg some (by kernel_rfl))⟩,t4:=Tryz.underlying4,a4:=Tryz.isAgg4,z4:=Tryz.sizeOf4,v4:=Tryz.zeroValue4,t22:=Tryz.underlying22,a22:=Tryz.isAgg22,z22:=Tryz.sizeOf22,v22:=Tryz.zeroValue22}
 e:=by kernel_rfl
 i:=⟨_,_,rfl,rfl,by kernel_rfl,of_decide_eq_true (by kernel_rfl),by kernel_rfl⟩
 hs:=by decide
 z:=Tryz.sizeOf88
def clP:ClT (cren 34 23 93) 3 where
 L:={mixed:=by kernel_rfl,f41:=⟨Tryz.f34.name,by decide,Tryz.func34.trans (congrArg some (by kernel_rfl))⟩,t4:=Tryz.underlying4,a4:=Tryz.isAgg4,z4:=Tryz.sizeOf4,v4:=Tryz.zeroValue4,t22:=Tryz.underlying23,a22:=Tryz.isAgg23,z22:=Tryz.sizeOf23,v22:=Tryz.zeroValue23}
 e:=by kernel_rfl
 i:=⟨_,_,rfl,rfl,by kernel_rfl,of_decide_eq_true (by kernel_rfl),by kernel_rfl⟩
 hs:=by decide
 z:=Tryz.sizeOf93
def clC:ClT (cren 35 24 96) 9 where
 L:={mixed:=by kernel_rfl,f41:=⟨Tryz.f35.name,by decide,Tryz.func35.trans (congrArg some (by kernel_rfl))⟩,t4:=Tryz.underlying4,a4:=Tryz.isAgg4,z4:=Tryz.sizeOf4,v4:=Tryz.zeroValue4,t22:=Tryz.underlying24,a22:=Tryz.isAgg24,z22:=Tryz.sizeOf24,v22:=Tryz.zeroValue24}
 e:=by kernel_rfl
 i:=⟨_,_,rfl,rfl,by kernel_rfl,of_decide_eq_true (by kernel_rfl),by kernel_rfl⟩
 hs:=by decide
 z:=Tryz.sizeOf96
def awP (args:List A) (os:List (List C)):Option (List A×List (List C)):=if args.isEmpty && os.isEmpty then some ([.one (.p (.bool true))],[]) else none
def ZMX:Zf2 Tryz.prog 8 awP:=Go.Cm.closed_prim Go.Cm.tabM_ok (by kernel_rfl) Go.Cm.awM
noncomputable def SB:Nat->Option Fn:=addP 8 awP (addP 33 (ZBS (cloP 17)) (addP 34 (ZBS (cloP 3)) (addP 35 (ZBS (cloP 9)) (addP 291 (ZBS cmpP) S2))))
def ZNi:FnOK Tryz.prog SB:=ZjQ ZMX (ZjQ (ZKj clN) (ZjQ (ZKj clP) (ZjQ (ZKj clC) (ZjQ ZxV ZDk))))
def ZEQ {S:Nat->Option Fn} {f:Nat} {p:List A->Option (List A)} {args r:List A} {Q:List A->List (List C)->Prop} (e:S f=some (.prim (ZBS p))) (hp:p args=some r) (h:Q r []):Gives S f args [] Q:=by
 refine ⟨1,r,[],?_,h⟩
 unfold call Zja
 rw [e]
 simp [ZBS,hp]
def ZMv:List (Nat×SFunc):=[(ZHi,ZHq),
 (ZH3,ZIw),
 (ZH5,ZIB),
 (ZG9,ZHE),
 (ZHw,ZHT),
 (ZHI,ZIa),
 (ZHn,ZHz),
 (ZHx,ZHN),
 (ZHt,ZHR)]
def ZLe:ZMv.all (fun p=>ZiH Tryz.prog p.1 p.2)=true:=by kernel_rfl
def ZMm:List (Nat×SFunc):=[(ZHh,ZHy),
 (ZIn,ZI1),
 (ZHD,ZIx),
 (ZHW,ZIA),
 (ZHs,ZHP),
 (ZH9,ZIJ),
 (ZIv,ZJf),
 (ZIQ,ZJt),
 (ZG5,ZHa)]
def ZLc:ZMm.all (fun p=>ZiH Tryz.prog p.1 p.2)=true:=by kernel_rfl
noncomputable def SM:Nat->Option Fn:=look ZMv (look ZMm SB)
def ZNj:FnOK Tryz.prog SM:=ZhB (ZhB ZNi (ZnL ZLc)) (ZnL ZLe)
def ZMy:Has SM:=by constructor<;>kernel_rfl
def ZL3:HasPr SM:=ZvV ZAX ZxB (by kernel_rfl)
def ZNh:HasL SM:=by constructor<;>kernel_rfl
def ZLC {s:Nat} {l:List (List P)} (h:l.length<=2147483648):cloP s [.one (.p (.sl s l))]=some [.one (.p (.sl s l))]:=if_pos ⟨rfl,h⟩
def ZNk:HM SM where
 toHasL:=ZNh
 cmp:=fun a b h=>ZEQ (S:=SM) (f:=291) (p:=cmpP) (by kernel_rfl) rfl h
 cloN:=fun hl h=>ZEQ (S:=SM) (f:=33) (p:=cloP 17) (by kernel_rfl) (ZLC hl) h
 cloP:=fun hl h=>ZEQ (S:=SM) (f:=34) (p:=cloP 3) (by kernel_rfl) (ZLC hl) h
 cloC:=fun hl h=>ZEQ (S:=SM) (f:=35) (p:=cloP 9) (by kernel_rfl) (ZLC hl) h
def ZL6 (Q:List A->List (List C)->Prop) (h:Q [pb true] []):Gives SM ZHF [] [] Q:=by
 refine ⟨1,[pb true],[],?_,h⟩
 have e:SM 8=some (.prim awP):=by kernel_rfl
 unfold call Zja
 rw [e]
 rfl
def ZMK {S:Nat->Option Fn} (H:Has S) (HR:HasPr S) {src:List Nat} (hb:Byt src) (Q:List A->List (List C)->Prop)
  (hQ: ∀(m:Mo) (ok:Bool),m.ok->m.ns.length<=100000->m.ps.length<=100000->m.cs.length<=100000->Q [.agg m.cs',pb ok] []):Gives S Zgf [ps src,pi 4000] [] Q:=
 ZuG H HR (by unfold ZeA;omega) hb fun noms pro cfs fns ok r1 r2 r3 r4 r5=>by
  obtain ⟨m,hm,e1,e2,e3,e4⟩:=ZFr (fns:=fns) r1 r2 r3
  have l1:=r1.1
  have l2:=r2.1
  have l3:=r3.1
  rw [<-e1,Yh] at l1
  rw [<-e2,Yh] at l2
  rw [<-e3,Yh] at l3
  rw [<-e1,<-e2,<-e3,<-e4]
  exact hQ m ok hm l1 l2 l3
def ZLj {src:List Nat} (h1:Byt src):Gives SM ZG5 [ps src] [] fun rs _=>rs=[pb true]:=
 ZHZ ZMy ZNk (by kernel_rfl) ZL6 (fun Q hQ=>ZMK ZMy ZL3 h1 Q hQ) rfl
end Go.Am.Fe
end
