/- Part. -/
import Derived.Test.YtcdpeppblcijfaaGreatDoorCards
import Derived.Test.YtcdpeppblcijfaaGreatDoorTie
import Derived.WalkKit
import Derived.JoinedCond
import Derived.SevenTiedAt
set_option maxRecDepth 999999
set_option maxHeartbeats 0
set_option linter.all false
section
namespace Go.Proofs.YtcdpeppblcijfaaGreatDoor.ifaceReasons
theorem ZJ5:Tryz.pinned.checked.prog.funcNamed Rows.ifaceReasonsRow.func=some 6:=by kernel_rfl
theorem ZKs:Tryz.f6.isInstance Tryz.pinned.checked.prog Rows.ifaceReasonsRow.origin Rows.ifaceReasonsRow.targs:=of_decide_eq_true (by kernel_rfl)
theorem ZKt:Tryz.f6.isWrapper Tryz.pinned.checked.prog Rows.ifaceReasonsRow.wrapper Rows.ifaceReasonsRow.mainSum:=by unfold Func.isWrapper;first|(rw [if_pos (by decide+kernel)];kernel_rfl)|(rw [if_neg (by decide+kernel)];exact ⟨rfl,rfl⟩)
theorem c_wf:Rows.ifaceReasonsRow.wfByText (OpenSpec.ofChange Rows.ifaceReasonsSpec)=true:=by kernel_rfl
theorem ZAM:Tryz.pinned.checked.prog.mainIs=some (Rows.ifaceReasonsCard.stood.harness.1,Rows.ifaceReasonsCard.stood.harness.2.toList):=by kernel_rfl
theorem ZBu:false=Rows.ifaceReasonsRow.goesBy Tryz.pinned.checked.prog:=by kernel_rfl
theorem ZyV:false=Tryz.pinned.checked.prog.looks []:=by kernel_rfl
theorem ZyW:Tryz.prog.wantsStandIn 9=false:=by kernel_rfl
end Go.Proofs.YtcdpeppblcijfaaGreatDoor.ifaceReasons
end
