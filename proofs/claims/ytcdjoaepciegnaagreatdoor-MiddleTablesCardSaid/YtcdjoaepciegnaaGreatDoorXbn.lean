/- Part. -/
import Derived.Test.YtcdjoaepciegnaaGreatDoorXbm
import Derived.Test.YtcdjoaepciegnaaGreatDoorChecked
set_option maxRecDepth 999999
set_option maxHeartbeats 0
set_option linter.all false
section
namespace Go.Cm
open Go.Proofs
set_option maxRecDepth 1000000
noncomputable def tabM:Nat->Option Go.Cm.Fn:=tabX Tryz.prog [(308,ZKk),(356,ZLL)]
def tabM_ok:ZK9 Tryz.prog tabM:=ZMn fun x hx args h v e=>by
 simp only [Yv,List.not_mem_nil,or_false] at hx
 rcases hx with rfl|rfl
 ·exact ZKw Tryz.func308 (by kernel_rfl) (by kernel_rfl) (by kernel_rfl) (by kernel_rfl) args h v e
 ·exact ZK3 Tryz.func356 (by kernel_rfl) (by kernel_rfl) (by kernel_rfl) (by kernel_rfl) args h v e
def awM:gives Tryz.prog tabM 300 8 true=true:=by kernel_rfl
end Go.Cm
end
