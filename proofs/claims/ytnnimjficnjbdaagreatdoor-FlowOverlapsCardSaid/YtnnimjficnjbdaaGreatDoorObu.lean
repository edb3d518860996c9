/- Part. -/
import Derived.Test.YtnnimjficnjbdaaGreatDoorObt
import Derived.Test.YtnnimjficnjbdaaGreatDoorObn
set_option maxRecDepth 999999
set_option maxHeartbeats 0
set_option linter.all false
section
namespace Go.Cm
open Go.Proofs
set_option maxRecDepth 1000000
noncomputable def tF4:Nat->Option Fn:=tabT 23 (ZNU [mK]) tF2
theorem ZQa:ZIJ Tryz.prog tF4:=ZIc (ZIS (by
 simp only [List.forall_mem_cons,List.not_mem_nil,false_implies,implies_true,and_true]
 exact ZHD ZRc (by kernel_rfl) (by kernel_rfl) ZQ1)) ZQ6
noncomputable def tabF:Nat->Option Fn:=tabT 27 (ZO1 tF4 5000 [(3,3),(18,2),(12,5),(3,4),(44,1)]) tF4
theorem tabF_ok:ZIJ Tryz.prog tabF:=ZIc (ZNK ZQa 5000 _) ZQa
theorem awF:gives Tryz.prog tabF 5000 5 true=true:=by kernel_rfl
end Go.Cm
end
