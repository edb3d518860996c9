/- Proved: MiddleUses: for every instruction the law answers true (which slots it consumes, uses and fills, and which blocks follow it); conditions: those of the given card, none beside. -/
import Derived.Test.YtcdjoaepciegnaaGreatDoorUbm
import Derived.Test.YtcdjoaepciegnaaGreatDoorUan
set_option maxRecDepth 999999
set_option maxHeartbeats 0
set_option linter.all false
section
namespace Go.Proofs.YtcdjoaepciegnaaGreatDoor.middleUses
theorem said:Rows.MiddleUsesSaid:=
 OpenClaim.holds_of_cond 4 Tryz.f4 rfl rfl rfl rfl rfl rfl rfl ⟨rfl,rfl,rfl,rfl,rfl⟩ rfl rfl rfl rfl rfl ZJ1 Tryz.func4 ZC1
  ZK3 ZK6
  (fun os started H enc _ F=>by rw [OpenClaim.pre_eq_preRow];exact ZAP os started H enc F)
def ZKJ (f:FuncId) (fn:Func) (hf:Tryz.pinned.checked.prog.funcNamed Rows.middleUsesRow.func=some f) (hfn:Tryz.pinned.checked.prog.funcs[f]? =some fn):
  false=Tryz.pinned.checked.prog.looks []/\ ∀(j:Nat) t,fn.params[j]? =some t->Tryz.pinned.checked.prog.wantsStandIn t=false:=by
 obtain rfl:f=4:=Option.some.inj (ZJ1.symm.trans hf)|>.symm
 obtain rfl:fn=Tryz.f4:=(Option.some.inj (Tryz.func4.symm.trans hfn)).symm
 refine ⟨ZyV,fun j t ht=>?_⟩
 rw [Tryz.params4] at ht
 have h:t=43:=by simpa using Array.mem_of_getElem? ht
 subst h
 exact ZyW
theorem card:Rows.MiddleUsesCardSaid:=
 Claim7.holds_tied_plain_at .later [] _ _ _ _ said (fun _ h=>by cases h) c_wf (fun _ h=>by cases h) middleUses_row_tie rfl ⟨rfl,rfl⟩ ZAM rfl ZKJ ZBu
end Go.Proofs.YtcdjoaepciegnaaGreatDoor.middleUses
end
