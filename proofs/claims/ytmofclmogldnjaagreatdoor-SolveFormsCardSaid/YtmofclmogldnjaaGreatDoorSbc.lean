/- Part. -/
import Derived.Test.YtmofclmogldnjaaGreatDoorSbb
import Derived.Test.YtmofclmogldnjaaGreatDoorSaz
import Derived.Test.YtmofclmogldnjaaGreatDoorSap
set_option maxRecDepth 999999
set_option maxHeartbeats 0
set_option linter.all false
section
namespace Go.Am.Fe
open Go.Proofs
set_option maxRecDepth 1000000
attribute [local instance] wiB
def look (tab:List (Nat×SFunc)) (rest:Nat->Option Fn) (f:Nat):Option Fn:=match tab with
 | []=>rest f
 | (k,F)::l=>if Nat.beq k f then some (.code F) else look l rest f
def Zmk {rest:Nat->Option Fn} (hr:FnOK Tryz.prog rest): ∀{tab:List (Nat×SFunc)},(∀p∈tab,ZiE Tryz.prog p.1 p.2=true)->FnOK Tryz.prog (look tab rest)
 | [],_=>hr
 | (k,F)::l,h=>fun f=>by
   unfold look
   by_cases hk:Nat.beq k f=true
   · rw [if_pos hk]
     have:=Nat.eq_of_beq_eq_true hk
     subst this
     exact h (k,F) Yr
   · rw [if_neg hk]
     exact Zmk hr (fun p hp=>h p (Yk _ hp)) f
def Zs1 {tab:List (Nat×SFunc)} (h:tab.all (fun p=>ZiE Tryz.prog p.1 p.2)=true): ∀p∈tab,ZiE Tryz.prog p.1 p.2=true:=List.all_eq_true.1 h
def addP (f:Nat) (p:List A->List (List C)->Option (List A×List (List C))) (S:Nat->Option Fn):Nat->Option Fn:=fun g=>match Nat.beq f g with
 | true=>some (.prim p)
 | false=>S g
def Zlx {f:Nat} {p:List A->List (List C)->Option (List A×List (List C))} {S:Nat->Option Fn} (h:ZjA Tryz.prog f p) (hS:FnOK Tryz.prog S):FnOK Tryz.prog (addP f p S):=fun g=>by
 unfold addP
 cases hb:Nat.beq f g with
 | true=>
   have:=Nat.eq_of_beq_eq_true hb
   subst this
   exact h
 | false=>exact hS g
def cren (f sl el:Nat):Go.Shelf.Ren:=⟨fun|41=>f|n=>n,fun|22=>sl|23=>el|4=>4|n=>n,fun|n=>n⟩
def clT:ClT (cren 57 56 123) 10 where
 L:={mixed:=by kernel_rfl,f41:=⟨Tryz.f57.name,by decide,Tryz.func57.trans (congrArg some (by kernel_rfl))⟩,t4:=Tryz.underlying4,a4:=Tryz.isAgg4,z4:=Tryz.sizeOf4,v4:=Tryz.zeroValue4,t22:=Tryz.underlying56,a22:=Tryz.isAgg56,z22:=Tryz.sizeOf56,v22:=Tryz.zeroValue56}
 e:=by kernel_rfl
 i:=⟨_,_,rfl,rfl,by kernel_rfl,of_decide_eq_true (by kernel_rfl),by kernel_rfl⟩
 hs:=by decide
 z:=Tryz.sizeOf123
def awP (args:List A) (os:List (List C)):Option (List A×List (List C)):=if args.isEmpty && os.isEmpty then some ([.one (.p (.bool true))],[]) else none
def Zxz:ZjA Tryz.prog 27 awP:=Go.Cm.closed_prim Go.Cm.tabM_ok (by kernel_rfl) Go.Cm.awM
def cmpQ (args:List A) (os:List (List C)):Option (List A×List (List C)):=if os.isEmpty then (cmpP args).map fun t=>(t,[]) else none
noncomputable def SB:Nat->Option Fn:=addP 27 awP (addP 57 (cloT 10) (addP 235 disP (addP 287 cmpQ fun _=>none)))
def ZzX:FnOK Tryz.prog SB:=Zlx Zxz (Zlx (ZuQ clT) (Zlx ZtV (Zlx ZuD fun _=>trivial)))
def ZvQ:List (Nat×SFunc):=[(ZbQ,ZdY),
 (Zbm,ZdW),
 (ZbN,ZdG),
 (ZcI,Zd1),
 (Zcb,Zb6),
 (Za3,ZcT),
 (Zbt,Zcj),
 (Zfb,Zhg),
 (ZaV,Zbj),
 (ZaP,ZcR),
 (Zda,ZeD),
 (ZaO,ZaS),
 (Zau,ZaE),
 (Za9,Zdq),
 (Zb3,Zdi),
 (Zbe,ZcQ),
 (Za0,Zb5),
 (Zdp,Zdd),
 (ZcG,ZdR),
 (Zel,ZfD),
 (ZbO,ZdH)]
def ZpS:ZvQ.all (fun p=>ZiE Tryz.prog p.1 p.2)=true:=by kernel_rfl
def Zvj:List (Nat×SFunc):=[(Zd8,ZfC),
 (ZbJ,ZcP),
 (ZaY,ZaX),
 (ZaJ,ZaI),
 (ZbU,ZdE),
 (ZcK,ZdS),
 (Zbu,Zdc),
 (Zaz,ZaA),
 (Zap,Zav),
 (ZbF,ZeK),
 (ZbK,ZcS),
 (Zbk,ZdD),
 (ZbR,ZdX),
 (Za5,Zbr),
 (Zen,Zfs),
 (Zfi,ZgF),
 (Zgi,Zjb),
 (ZbE,ZeA),
 (Zgr,Zi2),
 (ZgU,ZkT),
 (Zje,Zkz)]
def Zpo:Zvj.all (fun p=>ZiE Tryz.prog p.1 p.2)=true:=by kernel_rfl
def Zva:List (Nat×SFunc):=[(Zcm,Zey),
 (ZiZ,Zkr),
 (Zfh,ZiT),
 (Zeo,ZfV),
 (Zc7,Zht),
 (Zfq,ZiS),
 (ZgV,ZkL),
 (Zeg,ZiQ),
 (ZgP,Zk6),
 (Zdv,ZeC),
 (Zby,Zdf),
 (Zdl,ZeJ),
 (Zgn,ZiJ),
 (Zbx,Zco),
 (Zca,Zc9),
 (Zb9,Zdm),
 (Zej,ZfL),
 (Zd3,ZfT),
 (Zbf,Zb1)]
def Zqw:Zva.all (fun p=>ZiE Tryz.prog p.1 p.2)=true:=by kernel_rfl
noncomputable def SM:Nat->Option Fn:=look ZvQ (look Zvj (look Zva SB))
def Zz6:FnOK Tryz.prog SM:=Zmk (Zmk (Zmk ZzX (Zs1 Zqw)) (Zs1 Zpo)) (Zs1 ZpS)
def Zyn:Has SM:=by constructor<;>kernel_rfl
def Ziu {S:Nat->Option Fn} {f:Nat} {p:List A->List (List C)->Option (List A×List (List C))} {args r:List A} {Q:List A->List (List C)->Prop} (e:S f=some (.prim p)) (hp:p args []=some (r,[])) (h:Q r []):Gives S f args [] Q:=by
 refine ⟨1,r,[],?_,h⟩
 unfold call Zcy
 rw [e]
 exact hp
def Zs3 (l:List Int) (x:Int):x∈once l↔x∈l:=by
 rw [show once l=ZgC l from ZvF l];exact (Zga l).2 x
theorem Zz5:HM SM where
 toHas:=Zyn
 cmp:=fun a b h=>Ziu (p:=cmpQ) (r:=[pi (cmpN a b)]) (by kernel_rfl) rfl h
 dis:=fun l hl h=>Ziu (p:=disP) (r:=[.one (.uniq 1 (ints (once l)))]) (by kernel_rfl) (by
  show (match ZrR (ints l) with|some zs=>_|none=>none)=_
  rw [ZjU]
  exact if_pos Zo) (h _ (Zdk l) (Zs3 l))
 clo:=fun hl h=>Ziu (p:=cloT 10) (by kernel_rfl) (if_pos ⟨rfl,hl⟩) h
def Zz0 (Q:List A->List (List C)->Prop) (h:Q [pb true] []):Gives SM ZdO [] [] Q:=Ziu (p:=awP) (by kernel_rfl) rfl h
def Zyd {x:Pb} {q:List Int} (hx:x.ok) (hq:q.length<=9223372036854775807):Gives SM Zbf [.agg (x.row.map .p),.one (.p (.sl 1 (ints q)))] [] fun rs _=>rs=[pb true]:=
 ZzF Zz5 Zz0 hx hq rfl
end Go.Am.Fe
end
