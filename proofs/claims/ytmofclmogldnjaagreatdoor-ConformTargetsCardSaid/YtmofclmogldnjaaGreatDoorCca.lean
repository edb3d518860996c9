/- Part. -/
import Derived.Test.YtmofclmogldnjaaGreatDoorCbz
import Derived.Test.YtmofclmogldnjaaGreatDoorCax
import Derived.Test.YtmofclmogldnjaaGreatDoorCay
set_option maxRecDepth 999999
set_option maxHeartbeats 0
set_option linter.all false
section
namespace Go.Proofs.YtmofclmogldnjaaGreatDoor.conformTargets
theorem said:Rows.ConformTargetsSaid:=
 OpenClaim.holds_of_cond 4 Tryz.f4 rfl rfl rfl rfl rfl rfl rfl ⟨rfl,rfl,rfl,rfl,rfl⟩ rfl rfl rfl rfl rfl ZNb Tryz.func4 ZC1
  ZOw ZOs
  (fun os started H enc _ F=>by rw [OpenClaim.pre_eq_preRow];exact ZAP os started H enc F)
def ZGH (f:FuncId) (fn:Func) (hf:Tryz.pinned.checked.prog.funcNamed Rows.conformTargetsRow.func=some f) (hfn:Tryz.pinned.checked.prog.funcs[f]? =some fn):
  false=Tryz.pinned.checked.prog.looks []/\ ∀(j:Nat) t,fn.params[j]? =some t->Tryz.pinned.checked.prog.wantsStandIn t=false:=by
 obtain rfl:f=4:=qR (ZNb.symm.trans hf)|>.symm;obtain rfl:fn=Tryz.f4:=(qR (Tryz.func4.symm.trans hfn)).symm;refine ⟨ZyV,fun j t ht=>?_⟩;rw [Tryz.params4] at ht;have h:t=9∨t=27∨t=48:=by simpa using Array.mem_of_getElem? ht
 rcases h with rfl|rfl|rfl
 ·exact ZyW
 ·exact ZLS
 ·exact ZLK
theorem card:Rows.ConformTargetsCardSaid:=
 Claim7.holds_tied_plain_at .later [] _ _ _ _ said (fun _ h=>by cases h) c_wf (fun _ h=>by cases h) conformTargets_row_tie rfl ⟨rfl,rfl⟩ ZAM rfl ZGH ZBu
end Go.Proofs.YtmofclmogldnjaaGreatDoor.conformTargets
end
