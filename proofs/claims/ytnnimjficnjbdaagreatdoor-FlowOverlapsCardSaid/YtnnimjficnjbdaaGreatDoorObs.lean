/- Part. -/
import Derived.Test.YtnnimjficnjbdaaGreatDoorObr
set_option maxRecDepth 999999
set_option maxHeartbeats 0
set_option linter.all false
section
namespace Go.Cm
open Go.Proofs
set_option maxRecDepth 1000000
theorem ZPV:ran Tryz.prog tR 5000 20 mM1=true:=by kernel_rfl
end Go.Cm
end
