/- Part. -/
import Derived.Test.YtcdpeppblcijfaaGreatDoorOcc
import Derived.Test.YtcdpeppblcijfaaGreatDoorObg
import Derived.Test.YtcdpeppblcijfaaGreatDoorObh
set_option maxRecDepth 999999
set_option maxHeartbeats 0
set_option linter.all false
section
namespace Go.Proofs.YtcdpeppblcijfaaGreatDoor.ifaceOf
theorem said:Rows.IfaceOfSaid:=
 OpenClaim.holds_of_cond 10 Tryz.f10 rfl rfl rfl rfl rfl rfl rfl ⟨rfl,rfl,rfl,rfl,rfl⟩ rfl rfl rfl rfl rfl ZKO Tryz.func10 ZC1
  ZLQ ZLO
  (fun os started H enc _ F=>by rw [OpenClaim.pre_eq_preRow];exact ZAP os started H enc F)
def ZGH (f:FuncId) (fn:Func) (hf:Tryz.pinned.checked.prog.funcNamed Rows.ifaceOfRow.func=some f) (hfn:Tryz.pinned.checked.prog.funcs[f]? =some fn):
  false=Tryz.pinned.checked.prog.looks []/\ ∀(j:Nat) t,fn.params[j]? =some t->Tryz.pinned.checked.prog.wantsStandIn t=false:=by
 obtain rfl:f=10:=Option.some.inj (ZKO.symm.trans hf)|>.symm
 obtain rfl:fn=Tryz.f10:=(Option.some.inj (Tryz.func10.symm.trans hfn)).symm
 refine ⟨ZyV,fun j t ht=>?_⟩
 rw [Tryz.params10] at ht
 have h:t=9:=by simpa using Array.mem_of_getElem? ht
 subst h
 exact ZyW
theorem card:Rows.IfaceOfCardSaid:=
 Claim7.holds_tied_plain_at .later [] _ _ _ _ said (fun _ h=>by cases h) c_wf (fun _ h=>by cases h) ifaceOf_row_tie rfl ⟨rfl,rfl⟩ ZAM rfl ZGH ZBu
end Go.Proofs.YtcdpeppblcijfaaGreatDoor.ifaceOf
end
