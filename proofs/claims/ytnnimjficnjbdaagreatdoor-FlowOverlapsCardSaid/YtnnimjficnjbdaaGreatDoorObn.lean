/- Part. -/
import Derived.Test.YtnnimjficnjbdaaGreatDoorObm
set_option maxRecDepth 999999
set_option maxHeartbeats 0
set_option linter.all false
section
namespace Go.Cm
open Go.Proofs
set_option maxRecDepth 1000000
noncomputable def tF3:Nat->Option Fn:=tabT 255 (ZMB Tryz.prog tF0 5000 255 (ZNU [mS])) tF0
theorem ZRc:ZIJ Tryz.prog tF3:=ZIc (ZJ4 ZIv (by kernel_rfl) (ZIS (by
 simp only [List.forall_mem_cons,List.not_mem_nil,false_implies,implies_true,and_true]
 exact ZHD ZIv (by kernel_rfl) (by kernel_rfl) ZQT))) ZIv
theorem ZQ1:ran Tryz.prog tF3 5000 23 mK=true:=by kernel_rfl
end Go.Cm
end
