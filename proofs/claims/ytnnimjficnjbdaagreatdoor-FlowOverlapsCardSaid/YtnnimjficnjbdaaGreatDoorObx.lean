/- Part. -/
import Derived.Test.YtnnimjficnjbdaaGreatDoorObw
import Derived.Test.YtnnimjficnjbdaaGreatDoorObh
import Derived.Test.YtnnimjficnjbdaaGreatDoorOaj
set_option maxRecDepth 999999
set_option maxHeartbeats 0
set_option linter.all false
section
namespace Go.Proofs.YtnnimjficnjbdaaGreatDoor.flowOverlaps
theorem said:Rows.FlowOverlapsSaid:=
 OpenClaim.holds_of_cond 3 Tryz.f3 rfl rfl rfl rfl rfl rfl rfl ⟨rfl,rfl,rfl,rfl,rfl⟩ rfl rfl rfl rfl rfl ZGr Tryz.func3 ZC1
  ZGW ZGM
  (fun os started H enc _ F=>by rw [OpenClaim.pre_eq_preRow];exact ZAP os started H enc F)
theorem ZGH (f:FuncId) (fn:Func) (hf:Tryz.pinned.checked.prog.funcNamed Rows.flowOverlapsRow.func=some f) (hfn:Tryz.pinned.checked.prog.funcs[f]? =some fn):
  true=Tryz.pinned.checked.prog.looks []/\ ∀(j:Nat) t,fn.params[j]? =some t->Tryz.pinned.checked.prog.wantsStandIn t=false:=by
 obtain rfl:f=3:=Option.some.inj (ZGr.symm.trans hf)|>.symm
 obtain rfl:fn=Tryz.f3:=(Option.some.inj (Tryz.func3.symm.trans hfn)).symm
 refine ⟨ZyV,fun j t ht=>?_⟩
 rw [Tryz.params3] at ht
 have h:t=27∨t=27:=by simpa using Array.mem_of_getElem? ht
 rcases h with rfl|rfl
 ·exact ZLp
 ·exact ZLp
theorem card:Rows.FlowOverlapsCardSaid:=
 Claim7.holds_tied_plain_at .later [] _ _ _ _ said (fun _ h=>by cases h) c_wf (fun _ h=>by cases h) flowOverlaps_row_tie rfl ⟨rfl,rfl⟩ ZAM rfl ZGH ZBu
end Go.Proofs.YtnnimjficnjbdaaGreatDoor.flowOverlaps
end
