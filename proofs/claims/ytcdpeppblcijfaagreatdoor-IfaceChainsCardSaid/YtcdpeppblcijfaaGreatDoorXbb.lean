/- Part. -/
import Derived.Test.YtcdpeppblcijfaaGreatDoorCards
import Derived.Test.YtcdpeppblcijfaaGreatDoorTie
import Derived.WalkKit
import Derived.JoinedCond
import Derived.SevenTiedAt
set_option maxRecDepth 999999
set_option maxHeartbeats 0
set_option linter.all false
section
namespace Go.Proofs.YtcdpeppblcijfaaGreatDoor.ifaceChains
theorem ZHC:Tryz.pinned.checked.prog.funcNamed Rows.ifaceChainsRow.func=some 4:=by kernel_rfl
theorem ZHK:Tryz.f4.isInstance Tryz.pinned.checked.prog Rows.ifaceChainsRow.origin Rows.ifaceChainsRow.targs:=of_decide_eq_true (by kernel_rfl)
theorem ZHJ:Tryz.f4.isWrapper Tryz.pinned.checked.prog Rows.ifaceChainsRow.wrapper Rows.ifaceChainsRow.mainSum:=by unfold Func.isWrapper;first|(rw [if_pos (by decide+kernel)];kernel_rfl)|(rw [if_neg (by decide+kernel)];exact ⟨rfl,rfl⟩)
theorem c_wf:Rows.ifaceChainsRow.wfByText (OpenSpec.ofChange Rows.ifaceChainsSpec)=true:=by kernel_rfl
theorem ZAM:Tryz.pinned.checked.prog.mainIs=some (Rows.ifaceChainsCard.stood.harness.1,Rows.ifaceChainsCard.stood.harness.2.toList):=by kernel_rfl
theorem ZBu:false=Rows.ifaceChainsRow.goesBy Tryz.pinned.checked.prog:=by kernel_rfl
theorem ZyV:false=Tryz.pinned.checked.prog.looks []:=by kernel_rfl
theorem ZyW:Tryz.prog.wantsStandIn 9=false:=by kernel_rfl
end Go.Proofs.YtcdpeppblcijfaaGreatDoor.ifaceChains
end
