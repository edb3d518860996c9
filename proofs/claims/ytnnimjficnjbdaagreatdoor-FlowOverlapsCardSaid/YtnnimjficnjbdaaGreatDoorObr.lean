/- Part. -/
import Derived.Test.YtnnimjficnjbdaaGreatDoorObl
import Derived.Test.YtnnimjficnjbdaaGreatDoorObo
import Derived.Test.YtnnimjficnjbdaaGreatDoorObp
import Derived.Test.YtnnimjficnjbdaaGreatDoorObq
set_option maxRecDepth 999999
set_option maxHeartbeats 0
set_option linter.all false
section
namespace Go.Cm
open Go.Proofs
set_option maxRecDepth 1000000
theorem ZPM:ran Tryz.prog tF0 5000 297 mR6=true:=by kernel_rfl
end Go.Cm
end
section
namespace Go.Cm
open Go.Proofs
set_option maxRecDepth 1000000
noncomputable def tR:Nat->Option Fn:=tabT 297 (ZMB Tryz.prog tF0 5000 297 (ZNU [mR1,mR2,mR3,mR4,mR5,mR6])) tF1
theorem ZRD:ZIJ Tryz.prog tR:=ZIc (ZJ4 ZIv (by kernel_rfl) (ZIS (by
 simp only [List.forall_mem_cons,List.not_mem_nil,false_implies,implies_true,and_true]
 exact ⟨ZHD ZIv (by kernel_rfl) (by kernel_rfl) ZPq,ZHD ZIv (by kernel_rfl) (by kernel_rfl) ZPv,ZHD ZIv (by kernel_rfl) (by kernel_rfl) ZPy,ZHD ZIv (by kernel_rfl) (by kernel_rfl) ZPu,ZHD ZIv (by kernel_rfl) (by kernel_rfl) ZPB,ZHD ZIv (by kernel_rfl) (by kernel_rfl) ZPM⟩))) ZQc
end Go.Cm
end
