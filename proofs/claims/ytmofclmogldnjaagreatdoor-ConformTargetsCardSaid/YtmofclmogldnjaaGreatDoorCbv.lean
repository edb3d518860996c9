/- Part. -/
import Derived.Test.YtmofclmogldnjaaGreatDoorCbt
set_option maxRecDepth 999999
set_option maxHeartbeats 0
set_option linter.all false
section
namespace Go.Am.Fe
open Go.Proofs
set_option maxRecDepth 1000000
def look (tab:List (Nat×SFunc)) (rest:Nat->Option Fn) (f:Nat):Option Fn:=match tab with
 | []=>rest f
 | (k,F)::l=>if Nat.beq k f then some (.code F) else look l rest f
def ZhB {rest:Nat->Option Fn} (hr:FnOK Tryz.prog rest): ∀{tab:List (Nat×SFunc)},(∀p∈tab,ZiH Tryz.prog p.1 p.2=true)->FnOK Tryz.prog (look tab rest)
 | [],_=>hr
 | (k,F)::l,h=>fun f=>by
   unfold look;by_cases hk:Nat.beq k f=true
   · rw [if_pos hk];have:=qE hk;subst this;exact h (k,F) Yr
   · rw [if_neg hk];exact ZhB hr (fun p hp=>h p (Yk _ hp)) f
def ZnL {tab:List (Nat×SFunc)} (h:tab.all (fun p=>ZiH Tryz.prog p.1 p.2)=true): ∀p∈tab,ZiH Tryz.prog p.1 p.2=true:=List.all_eq_true.1 h
def Zyf:List (Nat×SFunc):=[(Zkq,Znu),
 (Zeu,Zjg),
 (Zge,Znb),
 (Ze0,Zlo),
 (Zkn,Zm4),
 (Zct,ZsT),
 (Zif,ZmX),
 (Zhm,Zjr),
 (Zkw,ZnN),
 (Zhi,ZjM),
 (Zkm,Zno),
 (Zkl,Zm9),
 (Zg8,Zi8),
 (Zf9,ZhP),
 (ZmT,ZpJ),
 (Zij,ZkX),
 (Zal,ZcO),
 (Zar,ZdK),
 (ZcH,Zfp),
 (Zaj,Zf0),
 (Zbp,ZcN),
 (Zak,Zfm),
 (Zad,Zfx),
 (Zb8,Zd9),
 (Zbn,Zdn),
 (Zbw,ZeW),
 (Zcd,Zfj),
 (ZaJ,Zgi)]
def Zul:Zyf.all (fun p=>ZiH Tryz.prog p.1 p.2)=true:=by kernel_rfl
def Zzj:List (Nat×SFunc):=[(Zg9,ZjD),
 (Zet,Zjc),
 (Zby,Zcg),
 (ZdN,Zfz),
 (Zbu,Zft),
 (Zb9,Zed),
 (ZcC,Zdw),
 (ZdL,Zfo),
 (ZdJ,ZfA),
 (ZcE,ZdF),
 (Za3,ZeE),
 (ZbZ,Zc7),
 (Zas,Zfn),
 (Zde,ZeQ),
 (ZaF,Zcz),
 (ZaO,ZdB),
 (Zc5,ZeN),
 (Zki,Zny),
 (ZcL,Zeb),
 (Zbg,ZcS),
 (Zbq,ZcG),
 (Zax,ZeG),
 (Zcc,Zd8),
 (ZdQ,Zfw),
 (Zcu,ZeM),
 (Zbm,Zdl),
 (Zcj,Zc8),
 (ZcM,Zee)]
def ZuQ:Zzj.all (fun p=>ZiH Tryz.prog p.1 p.2)=true:=by kernel_rfl
def Zx9:List (Nat×SFunc):=[(ZbF,Zcm),
 (ZhI,Zo4),
 (Zg3,Zly),
 (Zhn,Zi9),
 (Zen,Zes),
 (ZgA,ZkN),
 (Zgc,ZnE),
 (Zjl,Zqe),
 (ZdD,Zhc),
 (ZbG,Ziv),
 (Zhb,ZjJ),
 (ZgL,ZiB),
 (ZmO,ZpE),
 (Zkt,Znx),
 (Zat,ZlG),
 (Zeq,Zkp),
 (ZcW,ZhK),
 (ZbM,Zs9),
 (Zhg,ZjC),
 (Zb2,ZgI),
 (ZfN,Zi2),
 (ZiA,Zlp),
 (Zix,ZkV),
 (ZqH,ZsK),
 (Zg4,Zpu),
 (Zha,ZjA),
 (Zcf,Zi5),
 (ZdO,Zfv)]
def Zu7:Zx9.all (fun p=>ZiH Tryz.prog p.1 p.2)=true:=by kernel_rfl
def Zzh:List (Nat×SFunc):=[(ZdZ,Zfd),
 (Zbv,ZhV),
 (ZbE,Zeg),
 (ZcY,ZgV),
 (Zhd,Znc),
 (Zdk,ZeC),
 (ZbW,Zey),
 (ZaS,Zfy),
 (Zcy,ZeT),
 (Zcq,ZeI),
 (ZcB,ZdH),
 (ZbS,ZdI),
 (Zca,Zef),
 (ZgY,Zg1),
 (ZcQ,ZhL),
 (ZcP,Zea),
 (Zc0,Zhl),
 (ZeZ,ZkO),
 (Zio,Zm3),
 (Zgj,Zh3),
 (Zim,Zni),
 (Zdr,Zia),
 (Zbi,Zcn),
 (Zco,ZhG),
 (Zkx,Znk),
 (ZdM,Zfk),
 (Zgh,ZhZ),
 (Zil,ZnB)]
def Zud:Zzh.all (fun p=>ZiH Tryz.prog p.1 p.2)=true:=by kernel_rfl
def Zzo:List (Nat×SFunc):=[(Zdh,ZeL),
 (ZgG,ZiI),
 (Zhk,Zjy),
 (ZcA,ZdA),
 (Zkg,Znt),
 (Zgf,Znj),
 (Za6,Ziz),
 (ZjU,Ztq),
 (Zd1,Zgz),
 (ZeS,ZhN),
 (ZeY,ZhX),
 (ZfV,Zi3),
 (ZfO,Zjx),
 (Zgx,Zln),
 (ZdU,ZlJ),
 (ZgZ,Zlq),
 (ZdE,Zf1),
 (ZcZ,Zd0),
 (ZaC,Zjj),
 (ZcX,ZhJ),
 (Zfa,ZgB),
 (Za1,ZjF),
 (ZdX,ZgR),
 (Zhp,Zjt),
 (Zbk,ZbH)]
def ZuV:Zzo.all (fun p=>ZiH Tryz.prog p.1 p.2)=true:=by kernel_rfl
def ZBP (S:Nat->Option Fn):Nat->Option Fn:=look Zyf (look Zzj (look Zx9 (look Zzh (look Zzo S))))
def Zta {S:Nat->Option Fn} (h:FnOK Tryz.prog S):FnOK Tryz.prog (ZBP S):=ZhB (ZhB (ZhB (ZhB (ZhB h (ZnL ZuV)) (ZnL Zud)) (ZnL Zu7)) (ZnL ZuQ)) (ZnL Zul)
def ZzX:Nat->Option Fn:=fun f=>if Nat.beq f 265 then some (.prim (ZpA ZAg)) else if Nat.beq f 376 then some (.prim (ZpA escP)) else none
def ZsR:FnOK Tryz.prog ZzX:=fun f=>by
 unfold ZzX;by_cases h1:Nat.beq f 265=true
 ·rw [if_pos h1];have:=qE h1;subst this;exact ZwB
 rw [if_neg h1];by_cases h2:Nat.beq f 376=true
 ·rw [if_pos h2];have:=qE h2;subst this;exact Zzn
 rw [if_neg h2];trivial
def S1:Nat->Option Fn:=ZBP ZzX
def Zz4:FnOK Tryz.prog S1:=Zta ZsR
def ZAX:Has S1:=by constructor<;>kernel_rfl
def ZxB:HasP S1:=ZyA (by kernel_rfl) (by kernel_rfl)
def ZvA (n:Nat):Zcv Tryz.prog (call S1 n):=ZlN Zz4 n
noncomputable def ZBv:Nat->Option Fn:=fun f=>if Nat.beq f 115 then some (.prim (ZpA (Zpr S1))) else ZzX f
def ZwY:FnOK Tryz.prog ZBv:=fun f=>by
 unfold ZBv;by_cases h1:Nat.beq f 115=true
 ·rw [if_pos h1];have:=qE h1;subst this;exact ZqO ZvA
 rw [if_neg h1];exact ZsR f
noncomputable def S2:Nat->Option Fn:=ZBP ZBv
def ZDk:FnOK Tryz.prog S2:=Zta ZwY
end Go.Am.Fe
end
