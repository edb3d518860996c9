/- Part. -/
import Derived.Test.YtcdjoaepciegnaaGreatDoorUbd
import Derived.Test.YtcdjoaepciegnaaGreatDoorChecked
set_option maxRecDepth 999999
set_option maxHeartbeats 0
set_option linter.all false
section
namespace Go.Cm
open Go.Proofs
set_option maxRecDepth 1000000
noncomputable def tabM:Nat->Option Go.Cm.Fn:=tabX Tryz.prog [(308,ZHE),(356,ZJB)]
def tabM_ok:ZIv Tryz.prog tabM:=ZJP fun x hx args h v e=>by
 simp only [Yv,List.not_mem_nil,or_false] at hx
 rcases hx with rfl|rfl
 ·exact ZH1 Tryz.func308 (by kernel_rfl) (by kernel_rfl) (by kernel_rfl) (by kernel_rfl) args h v e
 ·exact ZIj Tryz.func356 (by kernel_rfl) (by kernel_rfl) (by kernel_rfl) (by kernel_rfl) args h v e
def awM:gives Tryz.prog tabM 300 8 true=true:=by kernel_rfl
end Go.Cm
end
