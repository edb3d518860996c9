/- Part. -/
import Derived.Test.YtnnimjficnjbdaaGreatDoorObg
import Derived.Test.YtnnimjficnjbdaaGreatDoorCards
import Derived.Test.YtnnimjficnjbdaaGreatDoorTie
import Derived.WalkKit
import Derived.JoinedCond
import Derived.SevenTiedAt
set_option maxRecDepth 999999
set_option maxHeartbeats 0
set_option linter.all false
section
set_option maxRecDepth 1000000
namespace Go.Proofs.YtnnimjficnjbdaaGreatDoor.flowOverlaps
theorem ZC1:joinedFacts Tryz.pinned.checked.prog 3 Tryz.f3 (OpenSpec.ofChange Rows.flowOverlapsSpec).bare Rows.flowOverlapsRow=true:=by
 unfold joinedFacts
 repeat' (with_reducible refine (Bool.and_eq_true_iff).2 ⟨?_,?_⟩)
 all_goals first|with_reducible exact ZQY|with_reducible exact ZQM|with_reducible exact ZRd|with_reducible exact ZRb|(as_aux_lemma=>kernel_rfl)
end Go.Proofs.YtnnimjficnjbdaaGreatDoor.flowOverlaps
end
