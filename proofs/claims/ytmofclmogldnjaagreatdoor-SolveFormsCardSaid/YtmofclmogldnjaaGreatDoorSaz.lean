/- Part. -/
import Derived.Test.YtmofclmogldnjaaGreatDoorSay
import Derived.Test.YtmofclmogldnjaaGreatDoorProg
set_option maxRecDepth 999999
set_option maxHeartbeats 0
set_option linter.all false
section
namespace Go.Cm
open Go.Proofs
set_option maxRecDepth 1000000
noncomputable def tabM:Nat->Option Go.Cm.Fn:=tabX Tryz.prog [(294,ZnP),(327,ZsC)]
def tabM_ok:ZnH Tryz.prog tabM:=Zt3 fun x hx args h v e=>by
 simp only [Yv,List.not_mem_nil,or_false] at hx
 rcases hx with rfl|rfl
 ·exact Zo6 Tryz.func294 (by kernel_rfl) (by kernel_rfl) (by kernel_rfl) (by kernel_rfl) args h v e
 ·exact Zp5 Tryz.func327 (by kernel_rfl) (by kernel_rfl) (by kernel_rfl) (by kernel_rfl) args h v e
def awM:gives Tryz.prog tabM 300 27 true=true:=by kernel_rfl
end Go.Cm
end
