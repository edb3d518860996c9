/- Part. -/
import Derived.Test.YtcdpeppblcijfaaGreatDoorCards
import Derived.Test.YtcdpeppblcijfaaGreatDoorTie
import Derived.WalkKit
import Derived.JoinedCond
import Derived.SevenTiedAt
set_option maxRecDepth 999999
set_option maxHeartbeats 0
set_option linter.all false
section
namespace Go.Proofs.YtcdpeppblcijfaaGreatDoor.ifaceGrows
theorem ZGr:Tryz.pinned.checked.prog.funcNamed Rows.ifaceGrowsRow.func=some 3:=by kernel_rfl
theorem ZGW:Tryz.f3.isInstance Tryz.pinned.checked.prog Rows.ifaceGrowsRow.origin Rows.ifaceGrowsRow.targs:=of_decide_eq_true (by kernel_rfl)
theorem ZGM:Tryz.f3.isWrapper Tryz.pinned.checked.prog Rows.ifaceGrowsRow.wrapper Rows.ifaceGrowsRow.mainSum:=by unfold Func.isWrapper;first|(rw [if_pos (by decide+kernel)];kernel_rfl)|(rw [if_neg (by decide+kernel)];exact ⟨rfl,rfl⟩)
theorem c_wf:Rows.ifaceGrowsRow.wfByText (OpenSpec.ofChange Rows.ifaceGrowsSpec)=true:=by kernel_rfl
theorem ZAM:Tryz.pinned.checked.prog.mainIs=some (Rows.ifaceGrowsCard.stood.harness.1,Rows.ifaceGrowsCard.stood.harness.2.toList):=by kernel_rfl
theorem ZBu:false=Rows.ifaceGrowsRow.goesBy Tryz.pinned.checked.prog:=by kernel_rfl
theorem ZyV:false=Tryz.pinned.checked.prog.looks []:=by kernel_rfl
theorem ZyW:Tryz.prog.wantsStandIn 9=false:=by kernel_rfl
theorem ZF9:Tryz.prog.wantsStandIn 3=false:=by kernel_rfl
end Go.Proofs.YtcdpeppblcijfaaGreatDoor.ifaceGrows
end
