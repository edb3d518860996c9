/- A part of the proof. -/
import Derived.Test.YtcdpeppblcijfaaGreatDoorCards
import Derived.Test.YtcdpeppblcijfaaGreatDoorTie
import Derived.WalkKit
import Derived.JoinedCond
import Derived.SevenTiedAt
set_option maxRecDepth 1000000
set_option maxHeartbeats 4000000
set_option linter.all false
section
namespace Go.Proofs.YtcdpeppblcijfaaGreatDoor.ifaceOpaque
theorem ZC1:joinedFacts Tryz.pinned.checked.prog 8 Tryz.f8 (OpenSpec.ofChange Rows.ifaceOpaqueSpec).bare Rows.ifaceOpaqueRow=true:=by
 unfold joinedFacts
 repeat' (refine (Bool.and_eq_true_iff).2 ⟨?_,?_⟩)
 all_goals (as_aux_lemma=>kernel_rfl)
end Go.Proofs.YtcdpeppblcijfaaGreatDoor.ifaceOpaque
end
