/- A part of the proof. -/
import Derived.Test.YtcdpeppblcijfaaGreatDoorCards
import Derived.Test.YtcdpeppblcijfaaGreatDoorTie
import Derived.WalkKit
import Derived.JoinedCond
import Derived.SevenTiedAt
set_option maxRecDepth 1000000
set_option maxHeartbeats 4000000
set_option linter.all false
section
namespace Go.Proofs.YtcdpeppblcijfaaGreatDoor.ifaceOpaque
theorem Zyg:Tryz.pinned.checked.prog.funcNamed Rows.ifaceOpaqueRow.func=some 8:=by kernel_rfl
theorem ZC6:Tryz.f8.isInstance Tryz.pinned.checked.prog Rows.ifaceOpaqueRow.origin Rows.ifaceOpaqueRow.targs:=of_decide_eq_true (by kernel_rfl)
theorem Zzv:Tryz.f8.isWrapper Tryz.pinned.checked.prog Rows.ifaceOpaqueRow.wrapper Rows.ifaceOpaqueRow.mainSum:=by unfold Func.isWrapper;first|(rw [if_pos (by decide+kernel)];kernel_rfl)|(rw [if_neg (by decide+kernel)];exact ⟨rfl,rfl⟩)
theorem c_wf:Rows.ifaceOpaqueRow.wfByText (OpenSpec.ofChange Rows.ifaceOpaqueSpec)=true:=by kernel_rfl
theorem ZAM:Tryz.pinned.checked.prog.mainIs=some (Rows.ifaceOpaqueCard.stood.harness.1,Rows.ifaceOpaqueCard.stood.harness.2.toList):=by kernel_rfl
theorem ZBu:false=Rows.ifaceOpaqueRow.goesBy Tryz.pinned.checked.prog:=by kernel_rfl
theorem ZyV:false=Tryz.pinned.checked.prog.looks []:=by kernel_rfl
theorem ZyW:Tryz.prog.wantsStandIn 9=false:=by kernel_rfl
end Go.Proofs.YtcdpeppblcijfaaGreatDoor.ifaceOpaque
end
