/- Part. -/
import Derived.Test.YtcdpeppblcijfaaGreatDoorCards
import Derived.Test.YtcdpeppblcijfaaGreatDoorTie
import Derived.WalkKit
import Derived.JoinedCond
import Derived.SevenTiedAt
set_option maxRecDepth 999999
set_option maxHeartbeats 0
set_option linter.all false
section
namespace Go.Proofs.YtcdpeppblcijfaaGreatDoor.ifaceEntries
theorem ZGM:Tryz.pinned.checked.prog.funcNamed Rows.ifaceEntriesRow.func=some 7:=by kernel_rfl
theorem ZKy:Tryz.f7.isInstance Tryz.pinned.checked.prog Rows.ifaceEntriesRow.origin Rows.ifaceEntriesRow.targs:=of_decide_eq_true (by kernel_rfl)
theorem ZKC:Tryz.f7.isWrapper Tryz.pinned.checked.prog Rows.ifaceEntriesRow.wrapper Rows.ifaceEntriesRow.mainSum:=by unfold Func.isWrapper;first|(rw [if_pos (by decide+kernel)];kernel_rfl)|(rw [if_neg (by decide+kernel)];exact ⟨rfl,rfl⟩)
theorem c_wf:Rows.ifaceEntriesRow.wfByText (OpenSpec.ofChange Rows.ifaceEntriesSpec)=true:=by kernel_rfl
theorem ZAM:Tryz.pinned.checked.prog.mainIs=some (Rows.ifaceEntriesCard.stood.harness.1,Rows.ifaceEntriesCard.stood.harness.2.toList):=by kernel_rfl
theorem ZBu:false=Rows.ifaceEntriesRow.goesBy Tryz.pinned.checked.prog:=by kernel_rfl
theorem ZyV:false=Tryz.pinned.checked.prog.looks []:=by kernel_rfl
theorem ZyW:Tryz.prog.wantsStandIn 9=false:=by kernel_rfl
theorem ZF9:Tryz.prog.wantsStandIn 32=false:=by kernel_rfl
end Go.Proofs.YtcdpeppblcijfaaGreatDoor.ifaceEntries
end
