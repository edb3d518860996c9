/- Part. -/
import Derived.Test.YtcdjoaepciegnaaGreatDoorCards
import Derived.Test.YtcdjoaepciegnaaGreatDoorTie
import Derived.WalkKit
import Derived.JoinedCond
import Derived.SevenTiedAt
set_option maxRecDepth 999999
set_option maxHeartbeats 0
set_option linter.all false
section
set_option maxRecDepth 1000000
namespace Go.Proofs.YtcdjoaepciegnaaGreatDoor.middleSame
theorem ZC1:joinedFacts Tryz.pinned.checked.prog 5 Tryz.f5 (OpenSpec.ofChange Rows.middleSameSpec).bare Rows.middleSameRow=true:=by
 unfold joinedFacts
 repeat' (with_reducible refine (Bool.and_eq_true_iff).2 ⟨?_,?_⟩)
 all_goals (as_aux_lemma=>kernel_rfl)
end Go.Proofs.YtcdjoaepciegnaaGreatDoor.middleSame
end
