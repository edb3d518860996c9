/- Part. -/
import Derived.Test.YtcdpeppblcijfaaGreatDoorObv
import Derived.Test.YtcdpeppblcijfaaGreatDoorObw
set_option maxRecDepth 999999
set_option maxHeartbeats 0
set_option linter.all false
section
namespace Go.Am.Fe
open Go.Proofs
set_option maxRecDepth 1000000
noncomputable def tabP:=ZpP [ZBh,ZA4,ZCk]
def ZzA:Zf2 Tryz.prog 11 tabP:=ZrH ZBH (by
 simp only [List.forall_mem_cons,List.not_mem_nil,false_implies,implies_true,and_true]
 exact ⟨Zcp ZCZ,Zcp ZDb,Zcp ZDg⟩)
def ZuK:fast (SE2 tabP) 1000000 13 [] []=some ([pb true],[]):=by kernel_rfl
def Zu4 (args:List A) (os:List (List C)):Option (List A×List (List C)):=match args,os with
 | [],[]=>some ([pb true],[])
 | _,_=>none
def Zuk:Zf2 Tryz.prog 13 Zu4:=ZsI (ZBg ZzA) fun args os r hp=>by
 unfold Zu4 at hp
 split at hp
 ·injection hp with hp
  subst hp
  exact Zcp ZuK
 ·cases hp
noncomputable def SL:Nat->Option Fn:=addP 13 Zu4 (addP 317 (ZBS cmpP) (addP 143 (ZBS cutP) (addP 133 (ZpA ZBA) (addP 75 (ZBS ZBM) (ZA8 S2)))))
def ZDd:FnOK Tryz.prog SL:=ZjQ Zuk (ZjQ ZxV (ZjQ Zzq (ZjQ Zwq (ZjQ ZwV (ZsX ZDk)))))
end Go.Am.Fe
end
