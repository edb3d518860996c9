/- Part. -/
import Derived.Test.YtcdpeppblcijfaaGreatDoorSbu
import Derived.Test.YtcdpeppblcijfaaGreatDoorSaz
import Derived.Test.YtcdpeppblcijfaaGreatDoorSba
set_option maxRecDepth 999999
set_option maxHeartbeats 0
set_option linter.all false
section
namespace Go.Proofs.YtcdpeppblcijfaaGreatDoor.ifaceSelf
theorem said:Rows.IfaceSelfSaid:=
 OpenClaim.holds_of_cond 9 Tryz.f9 rfl rfl rfl rfl rfl rfl rfl ⟨rfl,rfl,rfl,rfl,rfl⟩ rfl rfl rfl rfl rfl ZLv Tryz.func9 ZC1
  ZLU ZLX
  (fun os started H enc _ F=>by rw [OpenClaim.pre_eq_preRow];exact ZAP os started H enc F)
def ZGH (f:FuncId) (fn:Func) (hf:Tryz.pinned.checked.prog.funcNamed Rows.ifaceSelfRow.func=some f) (hfn:Tryz.pinned.checked.prog.funcs[f]? =some fn):
  false=Tryz.pinned.checked.prog.looks []/\ ∀(j:Nat) t,fn.params[j]? =some t->Tryz.pinned.checked.prog.wantsStandIn t=false:=by
 obtain rfl:f=9:=Option.some.inj (ZLv.symm.trans hf)|>.symm
 obtain rfl:fn=Tryz.f9:=(Option.some.inj (Tryz.func9.symm.trans hfn)).symm
 refine ⟨ZyV,fun j t ht=>?_⟩
 rw [Tryz.params9] at ht
 have h:t=9:=by simpa using Array.mem_of_getElem? ht
 subst h
 exact ZyW
theorem card:Rows.IfaceSelfCardSaid:=
 Claim7.holds_tied_plain_at .later [] _ _ _ _ said (fun _ h=>by cases h) c_wf (fun _ h=>by cases h) ifaceSelf_row_tie rfl ⟨rfl,rfl⟩ ZAM rfl ZGH ZBu
end Go.Proofs.YtcdpeppblcijfaaGreatDoor.ifaceSelf
end
