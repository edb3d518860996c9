/- Part. -/
import Derived.Test.YtmofclmogldnjaaGreatDoorMbr
import Derived.Test.YtmofclmogldnjaaGreatDoorProg
set_option maxRecDepth 999999
set_option maxHeartbeats 0
set_option linter.all false
section
namespace Go.Cm
open Go.Proofs
set_option maxRecDepth 1000000
noncomputable def tabM:Nat->Option Go.Cm.Fn:=tabX Tryz.prog [(294,ZLe),(327,ZM0)]
def tabM_ok:ZLh Tryz.prog tabM:=ZNi fun x hx args h v e=>by
 simp only [Yv,List.not_mem_nil,or_false] at hx;rcases hx with rfl|rfl
 ·exact ZLw Tryz.func294 (by kernel_rfl) (by kernel_rfl) (by kernel_rfl) (by kernel_rfl) args h v e
 ·exact ZL1 Tryz.func327 (by kernel_rfl) (by kernel_rfl) (by kernel_rfl) (by kernel_rfl) args h v e
def awM:gives Tryz.prog tabM 300 7 true=true:=by kernel_rfl
end Go.Cm
end
