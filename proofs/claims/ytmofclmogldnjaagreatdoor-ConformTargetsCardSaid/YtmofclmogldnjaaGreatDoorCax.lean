/- Part. -/
import Derived.Test.YtmofclmogldnjaaGreatDoorCards
import Derived.Test.YtmofclmogldnjaaGreatDoorTie
import Derived.WalkKit
import Derived.JoinedCond
import Derived.SevenTiedAt
set_option maxRecDepth 999999
set_option maxHeartbeats 0
set_option linter.all false
section
set_option maxRecDepth 1000000
namespace Go.Proofs.YtmofclmogldnjaaGreatDoor.conformTargets
theorem ZC1:joinedFacts Tryz.pinned.checked.prog 4 Tryz.f4 (OpenSpec.ofChange Rows.conformTargetsSpec).bare Rows.conformTargetsRow=true:=by
 unfold joinedFacts
 repeat' (with_reducible refine (Bool.and_eq_true_iff).2 ⟨?_,?_⟩)
 all_goals (as_aux_lemma=>kernel_rfl)
end Go.Proofs.YtmofclmogldnjaaGreatDoor.conformTargets
end
