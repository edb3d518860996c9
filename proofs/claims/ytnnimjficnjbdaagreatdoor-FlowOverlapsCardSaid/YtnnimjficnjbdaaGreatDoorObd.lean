/- Part. -/
import Derived.Test.YtnnimjficnjbdaaGreatDoorObb
import Derived.Test.YtnnimjficnjbdaaGreatDoorProg
set_option maxRecDepth 999999
set_option maxHeartbeats 0
set_option linter.all false
section
namespace Go.Clo
open Go.Proofs
set_option maxRecDepth 1000000
theorem gl0:cl0.flatMap glob=[1,2,3]:=by kernel_rfl
end Go.Clo
end
