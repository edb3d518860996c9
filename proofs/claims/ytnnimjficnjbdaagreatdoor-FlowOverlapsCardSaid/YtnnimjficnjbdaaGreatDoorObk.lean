/- Part. -/
import Derived.Test.YtnnimjficnjbdaaGreatDoorObj
set_option maxRecDepth 999999
set_option maxHeartbeats 0
set_option linter.all false
section
namespace Go.Cm
open Go.Proofs
set_option maxRecDepth 1000000
theorem ZPo:ran Tryz.prog tF0 5000 32 mT1=true:=by kernel_rfl
end Go.Cm
end
