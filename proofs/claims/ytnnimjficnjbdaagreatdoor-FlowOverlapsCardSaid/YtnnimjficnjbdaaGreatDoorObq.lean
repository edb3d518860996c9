/- Part. -/
import Derived.Test.YtnnimjficnjbdaaGreatDoorObj
set_option maxRecDepth 999999
set_option maxHeartbeats 0
set_option linter.all false
section
namespace Go.Cm
open Go.Proofs
set_option maxRecDepth 1000000
theorem ZPu:ran Tryz.prog tF0 5000 297 mR4=true:=by kernel_rfl
theorem ZPB:ran Tryz.prog tF0 5000 297 mR5=true:=by kernel_rfl
end Go.Cm
end
