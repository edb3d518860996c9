/- Part. -/
import Derived.Test.YtnnimjficnjbdaaGreatDoorObs
set_option maxRecDepth 999999
set_option maxHeartbeats 0
set_option linter.all false
section
namespace Go.Cm
open Go.Proofs
set_option maxRecDepth 1000000
theorem ZPF:ran Tryz.prog tR 5000 20 mM2=true:=by kernel_rfl
end Go.Cm
end
section
namespace Go.Cm
open Go.Proofs
set_option maxRecDepth 1000000
noncomputable def tF2:Nat->Option Fn:=tabT 20 (ZNU [mM1,mM2]) tF1
theorem ZQ6:ZIJ Tryz.prog tF2:=ZIc (ZIS (by
 simp only [List.forall_mem_cons,List.not_mem_nil,false_implies,implies_true,and_true]
 exact ⟨ZHD ZRD (by kernel_rfl) (by kernel_rfl) ZPV,ZHD ZRD (by kernel_rfl) (by kernel_rfl) ZPF⟩)) ZQc
end Go.Cm
end
