/- Part. -/
import Derived.Test.YtnnimjficnjbdaaGreatDoorObk
set_option maxRecDepth 999999
set_option maxHeartbeats 0
set_option linter.all false
section
namespace Go.Cm
open Go.Proofs
set_option maxRecDepth 1000000
theorem ZPh:ran Tryz.prog tF0 5000 32 mT2=true:=by kernel_rfl
end Go.Cm
end
section
namespace Go.Cm
open Go.Proofs
set_option maxRecDepth 1000000
noncomputable def tF1:Nat->Option Fn:=tabT 32 (ZNU [mT1,mT2]) tF0
theorem ZQc:ZIJ Tryz.prog tF1:=ZIc (ZIS (by
 simp only [List.forall_mem_cons,List.not_mem_nil,false_implies,implies_true,and_true]
 exact ⟨ZHD ZIv (by kernel_rfl) (by kernel_rfl) ZPo,ZHD ZIv (by kernel_rfl) (by kernel_rfl) ZPh⟩)) ZIv
end Go.Cm
end
