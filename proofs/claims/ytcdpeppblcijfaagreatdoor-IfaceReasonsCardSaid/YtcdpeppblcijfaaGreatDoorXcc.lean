/- Part. -/
import Derived.Test.YtcdpeppblcijfaaGreatDoorXcb
import Derived.Test.YtcdpeppblcijfaaGreatDoorXbg
import Derived.Test.YtcdpeppblcijfaaGreatDoorXbh
set_option maxRecDepth 999999
set_option maxHeartbeats 0
set_option linter.all false
section
namespace Go.Proofs.YtcdpeppblcijfaaGreatDoor.ifaceReasons
theorem said:Rows.IfaceReasonsSaid:=
 OpenClaim.holds_of_cond 6 Tryz.f6 rfl rfl rfl rfl rfl rfl rfl ⟨rfl,rfl,rfl,rfl,rfl⟩ rfl rfl rfl rfl rfl ZJ5 Tryz.func6 ZC1
  ZKs ZKt
  (fun os started H enc _ F=>by rw [OpenClaim.pre_eq_preRow];exact ZAP os started H enc F)
def ZGH (f:FuncId) (fn:Func) (hf:Tryz.pinned.checked.prog.funcNamed Rows.ifaceReasonsRow.func=some f) (hfn:Tryz.pinned.checked.prog.funcs[f]? =some fn):
  false=Tryz.pinned.checked.prog.looks []/\ ∀(j:Nat) t,fn.params[j]? =some t->Tryz.pinned.checked.prog.wantsStandIn t=false:=by
 obtain rfl:f=6:=Option.some.inj (ZJ5.symm.trans hf)|>.symm
 obtain rfl:fn=Tryz.f6:=(Option.some.inj (Tryz.func6.symm.trans hfn)).symm
 refine ⟨ZyV,fun j t ht=>?_⟩
 rw [Tryz.params6] at ht
 have h:t=9:=by simpa using Array.mem_of_getElem? ht
 subst h
 exact ZyW
theorem card:Rows.IfaceReasonsCardSaid:=
 Claim7.holds_tied_plain_at .later [] _ _ _ _ said (fun _ h=>by cases h) c_wf (fun _ h=>by cases h) ifaceReasons_row_tie rfl ⟨rfl,rfl⟩ ZAM rfl ZGH ZBu
end Go.Proofs.YtcdpeppblcijfaaGreatDoor.ifaceReasons
end
