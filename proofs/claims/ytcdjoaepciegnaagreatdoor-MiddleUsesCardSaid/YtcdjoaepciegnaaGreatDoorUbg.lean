/- Part. -/
import Derived.Test.YtcdjoaepciegnaaGreatDoorUbf
import Derived.WalkKit
import Derived.BigCall
import Derived.Shelf.Strings.BuilderK
set_option maxRecDepth 999999
set_option maxHeartbeats 0
set_option linter.all false
section
namespace Go.Proofs
open Go.RowKit
set_option maxHeartbeats 4000000
set_option maxRecDepth 1000000
end Go.Proofs
end
section
namespace Go.Proofs
open Go.RowKit
set_option maxHeartbeats 4000000
set_option maxRecDepth 1000000
end Go.Proofs
end
