/- Part. -/
import Derived.Test.YtcdpeppblcijfaaGreatDoorCards
import Derived.Test.YtcdpeppblcijfaaGreatDoorTie
import Derived.WalkKit
import Derived.JoinedCond
import Derived.SevenTiedAt
set_option maxRecDepth 999999
set_option maxHeartbeats 0
set_option linter.all false
section
namespace Go.Proofs.YtcdpeppblcijfaaGreatDoor.ifaceOf
theorem ZKO:Tryz.pinned.checked.prog.funcNamed Rows.ifaceOfRow.func=some 10:=by kernel_rfl
theorem ZLQ:Tryz.f10.isInstance Tryz.pinned.checked.prog Rows.ifaceOfRow.origin Rows.ifaceOfRow.targs:=of_decide_eq_true (by kernel_rfl)
theorem ZLO:Tryz.f10.isWrapper Tryz.pinned.checked.prog Rows.ifaceOfRow.wrapper Rows.ifaceOfRow.mainSum:=by unfold Func.isWrapper;first|(rw [if_pos (by decide+kernel)];kernel_rfl)|(rw [if_neg (by decide+kernel)];exact ⟨rfl,rfl⟩)
theorem c_wf:Rows.ifaceOfRow.wfByText (OpenSpec.ofChange Rows.ifaceOfSpec)=true:=by kernel_rfl
theorem ZAM:Tryz.pinned.checked.prog.mainIs=some (Rows.ifaceOfCard.stood.harness.1,Rows.ifaceOfCard.stood.harness.2.toList):=by kernel_rfl
theorem ZBu:false=Rows.ifaceOfRow.goesBy Tryz.pinned.checked.prog:=by kernel_rfl
theorem ZyV:false=Tryz.pinned.checked.prog.looks []:=by kernel_rfl
theorem ZyW:Tryz.prog.wantsStandIn 9=false:=by kernel_rfl
end Go.Proofs.YtcdpeppblcijfaaGreatDoor.ifaceOf
end
