/- A part of the proof. -/
import Derived.Test.YtcdpeppblcijfaaGreatDoorXbg
import Derived.Test.YtcdpeppblcijfaaGreatDoorXbd
import Derived.Test.YtcdpeppblcijfaaGreatDoorXbc
set_option maxRecDepth 1000000
set_option maxHeartbeats 4000000
set_option linter.all false
section
namespace Go.Am.Fe
open Go.Proofs
def ZyM:List (Nat×SFunc):=[(ZbI,Zc6),
 (ZaE,ZjN),
 (ZeF,Zk5),
 (ZcI,ZfB),
 (Zdb,Zk7),
 (ZgP,Zlh),
 (Zii,Znl),
 (Zin,Znr),
 (ZkQ,Zqd),
 (Za7,Zjp),
 (Zfe,ZiY),
 (ZaV,ZbB),
 (Zga,Zne),
 (ZdR,ZlZ),
 (Zg5,ZlE),
 (Zod,ZsJ),
 (ZeX,ZhH),
 (Zfu,ZlW),
 (Zcr,Zpx),
 (ZfS,Zjw),
 (Za4,ZbN),
 (Za5,ZbP),
 (Zd7,Zj9),
 (Ze8,ZiE),
 (Zgp,Zkf),
 (Zdg,Zgb),
 (Za9,Zdd)]
theorem ZuX:ZyM.all (fun p=>ZiH Tryz.prog p.1 p.2)=true:=by kernel_rfl
def Zyy:List (Nat×SFunc):=[(ZdY,ZgU),
 (Zci,Zgt),
 (Zdm,ZiM),
 (Zfr,ZlX),
 (ZaU,ZbA),
 (ZfF,ZjB),
 (ZaP,Zbr),
 (ZaW,Zbz),
 (ZeK,Zh6),
 (Zdy,ZjL),
 (Zel,Zhs),
 (Zfb,ZiU),
 (Zgy,Zk4),
 (Zb4,Zgm),
 (ZcT,Zh8),
 (ZbR,Zdu),
 (Zfc,ZiV),
 (Zbd,Zcb),
 (ZgK,ZlO),
 (ZcV,Zh7),
 (Zmx,Zrb),
 (ZbD,Zc3),
 (Zid,Zp2),
 (ZeH,ZpU),
 (ZfG,Zjb),
 (ZiO,ZmM),
 (ZfT,ZjK)]
theorem Zt3:Zyy.all (fun p=>ZiH Tryz.prog p.1 p.2)=true:=by kernel_rfl
def Zy5:List (Nat×SFunc):=[(Zdi,ZiC),
 (ZdC,Zq9),
 (Zmm,Zrx),
 (ZeB,Zhu),
 (ZgE,Zlg),
 (Ziw,ZlV),
 (ZkM,Zpi),
 (Zfg,ZiT),
 (Zjk,Zq8),
 (ZhE,Zlr),
 (Ziy,ZmP),
 (Zgq,Zkb),
 (Zh1,ZpY),
 (Zg0,ZkY),
 (ZbY,Zdx),
 (ZbC,Zc4),
 (Zek,Zhq),
 (Zbx,ZcR),
 (Zbo,ZcD),
 (Ze5,ZiP),
 (Zbj,Zcw),
 (Zbc,Zb5),
 (Zec,Zkd),
 (ZfJ,Zi6),
 (Zbt,ZcJ),
 (ZgM,Zlm),
 (Zdq,Zgv)]
theorem ZuR:Zy5.all (fun p=>ZiH Tryz.prog p.1 p.2)=true:=by kernel_rfl
def ZxZ:List (Nat×SFunc):=[(Zdp,Zgs),
 (Zej,Zht),
 (Zf7,Zl0),
 (Zgo,Zkc),
 (Zd3,ZnS),
 (Zd2,Zff),
 (ZgQ,ZiD),
 (Zdt,Zdz)]
theorem ZuY:ZxZ.all (fun p=>ZiH Tryz.prog p.1 p.2)=true:=by kernel_rfl
def ZA8 (S:Nat→Option Fn):Nat→Option Fn:=look ZyM (look Zyy (look Zy5 (look ZxZ S)))
theorem ZsX {S:Nat→Option Fn} (h:FnOK Tryz.prog S):FnOK Tryz.prog (ZA8 S):=ZhB (ZhB (ZhB (ZhB h (ZnL ZuY)) (ZnL ZuR)) (ZnL Zt3)) (ZnL ZuX)
noncomputable def SE2 (tabP:List A→List (List C)→Option (List A×List (List C))):Nat→Option Fn:=addP 11 tabP (addP 317 (ZBS cmpP) (addP 143 (ZBS cutP) (addP 133 (ZpA ZBA) (addP 75 (ZBS ZBM) (ZA8 S1)))))
theorem ZBg {tabP:List A→List (List C)→Option (List A×List (List C))} (h:Zf2 Tryz.prog 11 tabP):FnOK Tryz.prog (SE2 tabP):=ZjQ h (ZjQ ZxV (ZjQ Zzq (ZjQ Zwq (ZjQ ZwV (ZsX Zz4)))))
end Go.Am.Fe
end
