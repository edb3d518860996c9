/- Part. -/
import Derived.Test.YtcdjoaepciegnaaGreatDoorZby
import Derived.Test.YtcdjoaepciegnaaGreatDoorZbr
import Derived.Test.YtcdjoaepciegnaaGreatDoorZav
set_option maxRecDepth 999999
set_option maxHeartbeats 0
set_option linter.all false
section
namespace Go.Am.Fe
open Go.Proofs
set_option maxRecDepth 1000000
def addP (f:Nat) (p:List A->List (List C)->Option (List A×List (List C))) (S:Nat->Option Fn):Nat->Option Fn:=fun g=>match Nat.beq f g with
 | true=>some (.prim p)
 | false=>S g
def ZjQ {f:Nat} {p:List A->List (List C)->Option (List A×List (List C))} {S:Nat->Option Fn} (h:Zf2 Tryz.prog f p) (hS:FnOK Tryz.prog S):FnOK Tryz.prog (addP f p S):=fun g=>by
 unfold addP;cases hb:Nat.beq f g with
 | true=>
   have:=Nat.eq_of_beq_eq_true hb;subst this;exact h
 | false=>exact hS g
def cren (f sl el:Nat):Go.Shelf.Ren:=⟨fun|41=>f|n=>n,fun|22=>sl|23=>el|4=>4|n=>n,fun|n=>n⟩
def clN:ClT (cren 33 22 88) 17 where
 L:={mixed:=by kernel_rfl,f41:=⟨Tryz.f33.name,by decide,Tryz.func33.trans (congrArg some (by kernel_rfl))⟩,t4:=Tryz.underlying4,a4:=Tryz.isAgg4,z4:=Tryz.sizeOf4,v4:=Tryz.zeroValue4,t22:=Tryz.underlying22,a22:=Tryz.isAgg22,z22:=Tryz.sizeOf22,v22:=Tryz.zeroValue22}
 e:=by kernel_rfl
 i:=⟨_,_,rfl,rfl,by kernel_rfl,of_decide_eq_true (by kernel_rfl),by kernel_rfl⟩
 hs:=by decide
 z:=Tryz.sizeOf88
def clP:ClT (cren 34 23 93) 3 where
 L:={mixed:=by kernel_rfl,f41:=⟨Tryz.f34.name,by decide,Tryz.func34.trans (congrArg some (by kernel_rfl))⟩,t4:=Tryz.underlying4,a4:=Tryz.isAgg4,z4:=Tryz.sizeOf4,v4:=Tryz.zeroValue4,t22:=Tryz.underlying23,a22:=Tryz.isAgg23,z22:=Tryz.sizeOf23,v22:=Tryz.zeroValue23}
 e:=by kernel_rfl
 i:=⟨_,_,rfl,rfl,by kernel_rfl,of_decide_eq_true (by kernel_rfl),by kernel_rfl⟩
 hs:=by decide
 z:=Tryz.sizeOf93
def clC:ClT (cren 35 24 96) 9 where
 L:={mixed:=by kernel_rfl,f41:=⟨Tryz.f35.name,by decide,Tryz.func35.trans (congrArg some (by kernel_rfl))⟩,t4:=Tryz.underlying4,a4:=Tryz.isAgg4,z4:=Tryz.sizeOf4,v4:=Tryz.zeroValue4,t22:=Tryz.underlying24,a22:=Tryz.isAgg24,z22:=Tryz.sizeOf24,v22:=Tryz.zeroValue24}
 e:=by kernel_rfl
 i:=⟨_,_,rfl,rfl,by kernel_rfl,of_decide_eq_true (by kernel_rfl),by kernel_rfl⟩
 hs:=by decide
 z:=Tryz.sizeOf96
def awP (args:List A) (os:List (List C)):Option (List A×List (List C)):=if args.isEmpty && os.isEmpty then some ([.one (.p (.bool true))],[]) else none
def ZOc:Zf2 Tryz.prog 8 awP:=Go.Cm.closed_prim Go.Cm.tabM_ok (by kernel_rfl) Go.Cm.awM
noncomputable def SB:Nat->Option Fn:=addP 8 awP (addP 33 (ZBS (cloP 17)) (addP 34 (ZBS (cloP 3)) (addP 35 (ZBS (cloP 9)) (addP 291 (ZBS cmpP) S2))))
def ZOO:FnOK Tryz.prog SB:=ZjQ ZOc (ZjQ (ZLP clN) (ZjQ (ZLP clP) (ZjQ (ZLP clC) (ZjQ ZxV ZDk))))
def ZEQ {S:Nat->Option Fn} {f:Nat} {p:List A->Option (List A)} {args r:List A} {Q:List A->List (List C)->Prop} (e:S f=some (.prim (ZBS p))) (hp:p args=some r) (h:Q r []):Gives S f args [] Q:=by
 refine ⟨1,r,[],?_,h⟩;unfold call Zja;rw [e];simp [ZBS,hp]
def ZNy:List (Nat×SFunc):=[(ZIn,ZIX),
 (ZIt,ZJB),
 (ZIY,ZJu),
 (ZHy,ZIz),
 (ZIl,ZIL),
 (ZIC,ZJb),
 (ZIb,ZIv),
 (ZIh,ZIM),
 (ZIk,ZIK),
 (ZH5,ZIp),
 (ZJi,ZJY),
 (ZIy,ZJC),
 (ZIS,ZJA),
 (ZIi,ZII),
 (ZIA,ZJc),
 (ZIU,ZJy),
 (ZJt,ZKv),
 (ZIa,ZIc),
 (ZIR,ZJF),
 (ZJk,ZJ2),
 (ZIB,ZI3),
 (ZG5,ZHd),
 (Zmb,ZDE),
 (Zga,Zne),
 (ZdR,ZlZ),
 (Zg5,ZlE),
 (Zod,ZsJ),
 (ZeX,ZhH),
 (Zfu,ZlW),
 (Zcr,Zpx),
 (Za5,ZbP)]
def ZL3:ZNy.all (fun p=>ZiH Tryz.prog p.1 p.2)=true:=by kernel_rfl
def ZNO:List (Nat×SFunc):=[(ZHa,ZHg),
 (ZHq,ZH1),
 (ZaV,ZbB),
 (ZHt,ZHG),
 (Za4,ZbN),
 (ZHs,ZHF),
 (ZHz,ZHO),
 (ZG3,ZG8),
 (ZaU,ZbA),
 (ZHn,ZHB),
 (ZaP,Zbr),
 (ZaW,Zbz),
 (ZHI,ZHW),
 (ZHo,ZHC),
 (ZHw,ZHK),
 (ZHc,ZHj),
 (Zbd,Zcb),
 (ZHx,ZHS),
 (ZHL,ZH0),
 (ZHb,ZHi),
 (ZG9,ZHh),
 (ZHD,ZHV),
 (ZG2,ZG6),
 (ZG7,ZHf),
 (ZG4,ZHe),
 (ZHA,ZHP),
 (ZHJ,ZHX),
 (ZHl,ZHU),
 (ZHN,ZH2),
 (ZIj,ZIQ),
 (ZHM,ZH3)]
def ZMg:ZNO.all (fun p=>ZiH Tryz.prog p.1 p.2)=true:=by kernel_rfl
noncomputable def SM:Nat->Option Fn:=look ZNy (look ZNO SB)
def ZOP:FnOK Tryz.prog SM:=ZhB (ZhB ZOO (ZnL ZMg)) (ZnL ZL3)
def ZNR:Has SM:=by constructor<;>kernel_rfl
def ZML:HasPr SM:=ZvV ZAX ZxB (by kernel_rfl)
def ZOF:HasL SM:=by constructor<;>kernel_rfl
def ZMT {s:Nat} {l:List (List P)} (h:l.length<=2147483648):cloP s [.one (.p (.sl s l))]=some [.one (.p (.sl s l))]:=if_pos ⟨rfl,h⟩
def ZOL:HM SM where
 toHasL:=ZOF
 cmp:=fun a b h=>ZEQ (S:=SM) (f:=291) (p:=cmpP) (by kernel_rfl) rfl h
 cloN:=fun hl h=>ZEQ (S:=SM) (f:=33) (p:=cloP 17) (by kernel_rfl) (ZMT hl) h
 cloP:=fun hl h=>ZEQ (S:=SM) (f:=34) (p:=cloP 3) (by kernel_rfl) (ZMT hl) h
 cloC:=fun hl h=>ZEQ (S:=SM) (f:=35) (p:=cloP 9) (by kernel_rfl) (ZMT hl) h
def ZM0 (Q:List A->List (List C)->Prop) (h:Q [pb true] []):Gives SM ZHZ [] [] Q:=by
 refine ⟨1,[pb true],[],?_,h⟩;have e:SM 8=some (.prim awP):=by kernel_rfl
 unfold call Zja;rw [e];rfl
def ZNS {S:Nat->Option Fn} (H:Has S) (HR:HasPr S) {src:List Nat} (hb:Byt src) (Q:List A->List (List C)->Prop)
  (hQ: ∀(m:Mo) (ok:Bool),m.ok->m.ns.length<=100000->m.ps.length<=100000->m.cs.length<=100000->Q [.agg m.cs',pb ok] []):Gives S Zgf [ps src,pi 4000] [] Q:=
 ZuG H HR (by unfold ZeA;omega) hb fun noms pro cfs fns ok r1 r2 r3 r4=>by
  obtain ⟨m,hm,e1,e2,e3,e4⟩:=ZFr (fns:=fns) r1 r2 r3;have l1:=r1.1;have l2:=r2.1;have l3:=r3.1;rw [<-e1,Yh] at l1;rw [<-e2,Yh] at l2;rw [<-e3,Yh] at l3;rw [<-e1,<-e2,<-e3,<-e4];exact hQ m ok hm l1 l2 l3
end Go.Am.Fe
end
section
namespace Go.Am.Fe
open Go.Proofs
set_option maxRecDepth 1000000
def ZMc {S:Nat->Option Fn} (H:Has S) (HR:HasPr S) {src:List Nat} (hb:Byt src): ∃(m:Mo) (ok:Bool),m.ok/\ ∀Q:List A->List (List C)->Prop,Q [.agg m.cs',pb ok] []->Gives S Zgf [ps src,pi 4000] [] Q:=by
 obtain ⟨n,rs,os,hc,m,ok,hm,rfl,rfl⟩:=ZNS H HR hb (fun rs os=> ∃(m:Mo) (ok:Bool),m.ok/\rs=[.agg m.cs',pb ok]/\os=[]) fun m ok hm _ _ _=>⟨m,ok,hm,rfl,rfl⟩
 exact ⟨m,ok,hm,fun Q hQ=>⟨n,_,_,hc,hQ⟩⟩
def ZNq {src:List Nat} (h1:Byt src) {a b:List Cd} (ha:Ok Cd.ok a) (hb:Ok Cd.ok b):
  Gives SM ZHM [ps src,.one (.p (.sl 14 (a.map Cd.row))),.one (.p (.sl 14 (b.map Cd.row)))] [] fun rs _=>rs=[pb true]:=by
 obtain ⟨m,ok,hm,HT⟩:=ZMc ZNR ZML h1;exact ZJf ZNR ZOL ZM0 hm HT ha hb rfl
end Go.Am.Fe
end
