/- Part. -/
import Derived.Test.YtcdpeppblcijfaaGreatDoorObu
set_option maxRecDepth 999999
set_option maxHeartbeats 0
set_option linter.all false
section
namespace Go.Am.Fe
set_option maxRecDepth 1000000
def ZC9:fast S1 1000000 109 [ps ZA2.1] []=some (ZA2.2,[]):=by kernel_rfl
def ZC2:fast S1 1000000 109 [ps ZBI.1] []=some (ZBI.2,[]):=by kernel_rfl
def ZDi:fast S1 1000000 109 [ps ZB3.1] []=some (ZB3.2,[]):=by kernel_rfl
def ZDe:fast S1 1000000 109 [ps ZBQ.1] []=some (ZBQ.2,[]):=by kernel_rfl
def ZCV:fast S1 1000000 109 [ps ZBK.1] []=some (ZBK.2,[]):=by kernel_rfl
def ZCX:fast S1 1000000 109 [ps ZB1.1] []=some (ZB1.2,[]):=by kernel_rfl
noncomputable def tokP:=ZA1 [ZA2,ZBI,ZB3,ZBQ,ZBK,ZB1]
def Zzf:Zf2 Go.Proofs.Tryz.prog 109 tokP:=Zw2 Zz4 (by
 simp only [List.forall_mem_cons,List.not_mem_nil,false_implies,implies_true,and_true]
 exact ⟨Zcp ZC9,Zcp ZC2,Zcp ZDi,Zcp ZDe,Zcp ZCV,Zcp ZCX⟩)
noncomputable def SE1:=addP 109 tokP (addP 213 (ZpA (Zuf S1 1000000)) S1)
def ZBH:FnOK Go.Proofs.Tryz.prog SE1:=ZjQ Zzf (ZjQ (ZuB ZvA) Zz4)
end Go.Am.Fe
end
section
namespace Go.Am.Fe
set_option maxRecDepth 1000000
def ZCZ:fast SE1 1000000 11 [ps ZBh.1,pi 4000] []=some (ZBh.2,[]):=by kernel_rfl
end Go.Am.Fe
end
section
namespace Go.Am.Fe
set_option maxRecDepth 1000000
def ZDb:fast SE1 1000000 11 [ps ZA4.1,pi 4000] []=some (ZA4.2,[]):=by kernel_rfl
end Go.Am.Fe
end
section
namespace Go.Am.Fe
set_option maxRecDepth 1000000
def ZDg:fast SE1 1000000 11 [ps ZCk.1,pi 4000] []=some (ZCk.2,[]):=by kernel_rfl
end Go.Am.Fe
end
