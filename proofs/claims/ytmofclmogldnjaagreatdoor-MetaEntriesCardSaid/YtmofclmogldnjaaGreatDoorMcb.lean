/- Part. -/
import Derived.Test.YtmofclmogldnjaaGreatDoorMca
import Derived.Test.YtmofclmogldnjaaGreatDoorMax
import Derived.Test.YtmofclmogldnjaaGreatDoorMay
set_option maxRecDepth 999999
set_option maxHeartbeats 0
set_option linter.all false
section
namespace Go.Proofs.YtmofclmogldnjaaGreatDoor.metaEntries
theorem said:Rows.MetaEntriesSaid:=
 OpenClaim.holds_of_cond 3 Tryz.f3 rfl rfl rfl rfl rfl rfl rfl ⟨rfl,rfl,rfl,rfl,rfl⟩ rfl rfl rfl rfl rfl ZGr Tryz.func3 ZC1
  ZGW ZGM
  (fun os started H enc _ F=>by rw [OpenClaim.pre_eq_preRow];exact ZAP os started H enc F)
def ZGH (f:FuncId) (fn:Func) (hf:Tryz.pinned.checked.prog.funcNamed Rows.metaEntriesRow.func=some f) (hfn:Tryz.pinned.checked.prog.funcs[f]? =some fn):
  false=Tryz.pinned.checked.prog.looks []/\ ∀(j:Nat) t,fn.params[j]? =some t->Tryz.pinned.checked.prog.wantsStandIn t=false:=by
 obtain rfl:f=3:=Option.some.inj (ZGr.symm.trans hf)|>.symm;obtain rfl:fn=Tryz.f3:=(Option.some.inj (Tryz.func3.symm.trans hfn)).symm;refine ⟨ZyV,fun j t ht=>?_⟩;rw [Tryz.params3] at ht;have h:t=9∨t=31∨t=9:=by simpa using Array.mem_of_getElem? ht
 rcases h with rfl|rfl|rfl
 ·exact ZyW
 ·exact ZLU
 ·exact ZyW
theorem card:Rows.MetaEntriesCardSaid:=
 Claim7.holds_tied_plain_at .later [] _ _ _ _ said (fun _ h=>by cases h) c_wf (fun _ h=>by cases h) metaEntries_row_tie rfl ⟨rfl,rfl⟩ ZAM rfl ZGH ZBu
end Go.Proofs.YtmofclmogldnjaaGreatDoor.metaEntries
end
