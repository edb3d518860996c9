/- Part. -/
import Derived.Test.YtcdpeppblcijfaaGreatDoorCards
import Derived.Test.YtcdpeppblcijfaaGreatDoorTie
import Derived.WalkKit
import Derived.JoinedCond
import Derived.SevenTiedAt
set_option maxRecDepth 999999
set_option maxHeartbeats 0
set_option linter.all false
section
namespace Go.Proofs.YtcdpeppblcijfaaGreatDoor.ifaceOrder
theorem ZHr:Tryz.pinned.checked.prog.funcNamed Rows.ifaceOrderRow.func=some 5:=by kernel_rfl
theorem ZHx:Tryz.f5.isInstance Tryz.pinned.checked.prog Rows.ifaceOrderRow.origin Rows.ifaceOrderRow.targs:=of_decide_eq_true (by kernel_rfl)
theorem ZHw:Tryz.f5.isWrapper Tryz.pinned.checked.prog Rows.ifaceOrderRow.wrapper Rows.ifaceOrderRow.mainSum:=by unfold Func.isWrapper;first|(rw [if_pos (by decide+kernel)];kernel_rfl)|(rw [if_neg (by decide+kernel)];exact ⟨rfl,rfl⟩)
theorem c_wf:Rows.ifaceOrderRow.wfByText (OpenSpec.ofChange Rows.ifaceOrderSpec)=true:=by kernel_rfl
theorem ZAM:Tryz.pinned.checked.prog.mainIs=some (Rows.ifaceOrderCard.stood.harness.1,Rows.ifaceOrderCard.stood.harness.2.toList):=by kernel_rfl
theorem ZBu:false=Rows.ifaceOrderRow.goesBy Tryz.pinned.checked.prog:=by kernel_rfl
theorem ZyV:false=Tryz.pinned.checked.prog.looks []:=by kernel_rfl
theorem ZyW:Tryz.prog.wantsStandIn 9=false:=by kernel_rfl
theorem ZF9:Tryz.prog.wantsStandIn 3=false:=by kernel_rfl
end Go.Proofs.YtcdpeppblcijfaaGreatDoor.ifaceOrder
end
