/- Part. -/
import Derived.Test.YtnnimjficnjbdaaGreatDoorOag
import Derived.Test.YtnnimjficnjbdaaGreatDoorObu
import Derived.Test.YtnnimjficnjbdaaGreatDoorOao
set_option maxRecDepth 999999
set_option maxHeartbeats 0
set_option linter.all false
section
namespace Go.Am.Fe
open Go.Proofs
set_option maxRecDepth 1000000
attribute [local instance] wiB
def look (tab:List (Nat×SFunc)) (rest:Nat->Option Fn) (f:Nat):Option Fn:=match tab with
 | []=>rest f
 | (k,F)::l=>if Nat.beq k f then some (.code F) else look l rest f
theorem ZhB {rest:Nat->Option Fn} (hr:FnOK Tryz.prog rest): ∀{tab:List (Nat×SFunc)},(∀p∈tab,ZiH Tryz.prog p.1 p.2=true)->FnOK Tryz.prog (look tab rest)
 | [],_=>hr
 | (k,F)::l,h=>fun f=>by
   unfold look
   by_cases hk:Nat.beq k f=true
   · rw [if_pos hk]
     have:=Nat.eq_of_beq_eq_true hk
     subst this
     exact h (k,F) List.mem_cons_self
   · rw [if_neg hk]
     exact ZhB hr (fun p hp=>h p (List.mem_cons_of_mem _ hp)) f
theorem ZnL {tab:List (Nat×SFunc)} (h:tab.all (fun p=>ZiH Tryz.prog p.1 p.2)=true): ∀p∈tab,ZiH Tryz.prog p.1 p.2=true:=List.all_eq_true.1 h
def awP (args:List A) (os:List (List C)):Option (List A×List (List C)):=if args.isEmpty && os.isEmpty then some ([.one (.p (.bool true))],[]) else none
theorem ZQ3:Zf2 Tryz.prog 5 awP:=Go.Cm.closed_prim Go.Cm.tabF_ok (by kernel_rfl) Go.Cm.awF
def SA (f:Nat):Option Fn:=match Nat.beq 5 f with
 | true=>some (.prim awP)
 | false=>none
theorem ZR7:FnOK Tryz.prog SA:=fun f=>by
 unfold SA
 cases hb:Nat.beq 5 f with
 | true=>
   have:=Nat.eq_of_beq_eq_true hb
   subst this
   exact ZQ3
 | false=>trivial
def ZRz:List (Nat×SFunc):=[(ZcY,ZgV),(ZHq,ZJI),(ZHT,ZJJ),(ZHu,ZIn),(Zmb,ZDE),(ZG8,ZHK),(ZHp,ZHL),(ZHR,ZIm),(ZHQ,ZIo),(ZG7,ZHe)]
theorem ZOn:ZRz.all (fun p=>ZiH Tryz.prog p.1 p.2)=true:=by kernel_rfl
def SL:Nat->Option Fn:=look ZRz SA
theorem ZDd:FnOK Tryz.prog SL:=ZhB ZR7 (ZnL ZOn)
theorem ZBt:Has SL:=by constructor<;>kernel_rfl
theorem ZwD (Q:List A->List (List C)->Prop) (hQ:Q [pb true] []):Gives SL ZHi [] [] Q:=by
 refine ⟨1,[pb true],[],?_,hQ⟩
 unfold call Zja
 rw [show SL ZHi=some (.prim awP) by kernel_rfl]
 rfl
theorem ZQz {a b:Nd} (ha:a.fw) (hb:b.fw):Gives SL ZG7 [.agg a.cs,.agg b.cs] [] (fun rs _=>rs=[pb true]):=
 ZRJ ZBt (fun x Q hx hQ=>ZPH ZBt hx hQ) ZwD ha hb rfl
end Go.Am.Fe
end
