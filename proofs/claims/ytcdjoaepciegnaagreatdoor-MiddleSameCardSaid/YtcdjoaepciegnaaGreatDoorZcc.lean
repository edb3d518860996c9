/- Part. -/
import Derived.Test.YtcdjoaepciegnaaGreatDoorZcb
import Derived.Test.YtcdjoaepciegnaaGreatDoorZay
import Derived.Test.YtcdjoaepciegnaaGreatDoorZaz
set_option maxRecDepth 999999
set_option maxHeartbeats 0
set_option linter.all false
section
namespace Go.Proofs.YtcdjoaepciegnaaGreatDoor.middleSame
theorem said:Rows.MiddleSameSaid:=
 OpenClaim.holds_of_cond 5 Tryz.f5 rfl rfl rfl rfl rfl rfl rfl ⟨rfl,rfl,rfl,rfl,rfl⟩ rfl rfl rfl rfl rfl ZNF Tryz.func5 ZC1
  ZON ZOV
  (fun os started H enc _ F=>by rw [OpenClaim.pre_eq_preRow];exact ZAP os started H enc F)
def ZGH (f:FuncId) (fn:Func) (hf:Tryz.pinned.checked.prog.funcNamed Rows.middleSameRow.func=some f) (hfn:Tryz.pinned.checked.prog.funcs[f]? =some fn):
  false=Tryz.pinned.checked.prog.looks []/\ ∀(j:Nat) t,fn.params[j]? =some t->Tryz.pinned.checked.prog.wantsStandIn t=false:=by
 obtain rfl:f=5:=Option.some.inj (ZNF.symm.trans hf)|>.symm;obtain rfl:fn=Tryz.f5:=(Option.some.inj (Tryz.func5.symm.trans hfn)).symm;refine ⟨ZyV,fun j t ht=>?_⟩;rw [Tryz.params5] at ht;have h:t=9∨t=31:=by simpa using Array.mem_of_getElem? ht
 rcases h with rfl|rfl
 ·exact ZyW
 ·exact ZMa
theorem card:Rows.MiddleSameCardSaid:=
 Claim7.holds_tied_plain_at .later [] _ _ _ _ said (fun _ h=>by cases h) c_wf (fun _ h=>by cases h) middleSame_row_tie rfl ⟨rfl,rfl⟩ ZAM rfl ZGH ZBu
end Go.Proofs.YtcdjoaepciegnaaGreatDoor.middleSame
end
