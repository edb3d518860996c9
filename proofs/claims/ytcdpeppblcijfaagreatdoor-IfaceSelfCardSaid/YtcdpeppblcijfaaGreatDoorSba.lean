/- Part. -/
import Derived.Test.YtcdpeppblcijfaaGreatDoorCards
import Derived.Test.YtcdpeppblcijfaaGreatDoorTie
import Derived.WalkKit
import Derived.JoinedCond
import Derived.SevenTiedAt
set_option maxRecDepth 999999
set_option maxHeartbeats 0
set_option linter.all false
section
namespace Go.Proofs.YtcdpeppblcijfaaGreatDoor.ifaceSelf
theorem ZLv:Tryz.pinned.checked.prog.funcNamed Rows.ifaceSelfRow.func=some 9:=by kernel_rfl
theorem ZLU:Tryz.f9.isInstance Tryz.pinned.checked.prog Rows.ifaceSelfRow.origin Rows.ifaceSelfRow.targs:=of_decide_eq_true (by kernel_rfl)
theorem ZLX:Tryz.f9.isWrapper Tryz.pinned.checked.prog Rows.ifaceSelfRow.wrapper Rows.ifaceSelfRow.mainSum:=by unfold Func.isWrapper;first|(rw [if_pos (by decide+kernel)];kernel_rfl)|(rw [if_neg (by decide+kernel)];exact ⟨rfl,rfl⟩)
theorem c_wf:Rows.ifaceSelfRow.wfByText (OpenSpec.ofChange Rows.ifaceSelfSpec)=true:=by kernel_rfl
theorem ZAM:Tryz.pinned.checked.prog.mainIs=some (Rows.ifaceSelfCard.stood.harness.1,Rows.ifaceSelfCard.stood.harness.2.toList):=by kernel_rfl
theorem ZBu:false=Rows.ifaceSelfRow.goesBy Tryz.pinned.checked.prog:=by kernel_rfl
theorem ZyV:false=Tryz.pinned.checked.prog.looks []:=by kernel_rfl
theorem ZyW:Tryz.prog.wantsStandIn 9=false:=by kernel_rfl
end Go.Proofs.YtcdpeppblcijfaaGreatDoor.ifaceSelf
end
