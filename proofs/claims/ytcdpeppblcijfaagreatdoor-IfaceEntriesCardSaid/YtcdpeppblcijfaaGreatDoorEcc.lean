/- Part. -/
import Derived.Test.YtcdpeppblcijfaaGreatDoorEcb
import Derived.Test.YtcdpeppblcijfaaGreatDoorEbg
import Derived.Test.YtcdpeppblcijfaaGreatDoorEbh
set_option maxRecDepth 999999
set_option maxHeartbeats 0
set_option linter.all false
section
namespace Go.Proofs.YtcdpeppblcijfaaGreatDoor.ifaceEntries
theorem said:Rows.IfaceEntriesSaid:=
 OpenClaim.holds_of_cond 7 Tryz.f7 rfl rfl rfl rfl rfl rfl rfl ⟨rfl,rfl,rfl,rfl,rfl⟩ rfl rfl rfl rfl rfl ZGM Tryz.func7 ZC1
  ZKy ZKC
  (fun os started H enc _ F=>by rw [OpenClaim.pre_eq_preRow];exact ZAP os started H enc F)
def ZGH (f:FuncId) (fn:Func) (hf:Tryz.pinned.checked.prog.funcNamed Rows.ifaceEntriesRow.func=some f) (hfn:Tryz.pinned.checked.prog.funcs[f]? =some fn):
  false=Tryz.pinned.checked.prog.looks []/\ ∀(j:Nat) t,fn.params[j]? =some t->Tryz.pinned.checked.prog.wantsStandIn t=false:=by
 obtain rfl:f=7:=Option.some.inj (ZGM.symm.trans hf)|>.symm
 obtain rfl:fn=Tryz.f7:=(Option.some.inj (Tryz.func7.symm.trans hfn)).symm
 refine ⟨ZyV,fun j t ht=>?_⟩
 rw [Tryz.params7] at ht
 have h:t=9∨t=32:=by simpa using Array.mem_of_getElem? ht
 rcases h with rfl|rfl
 ·exact ZyW
 ·exact ZF9
theorem card:Rows.IfaceEntriesCardSaid:=
 Claim7.holds_tied_plain_at .later [] _ _ _ _ said (fun _ h=>by cases h) c_wf (fun _ h=>by cases h) ifaceEntries_row_tie rfl ⟨rfl,rfl⟩ ZAM rfl ZGH ZBu
end Go.Proofs.YtcdpeppblcijfaaGreatDoor.ifaceEntries
end
