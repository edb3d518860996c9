/- For any two texts the law on opaque types answers true; its condition: the listed tables read as the text lays them. -/
import Derived.Test.YtcdpeppblcijfaaGreatDoorXbm
import Derived.Test.YtcdpeppblcijfaaGreatDoorXas
import Derived.Test.YtcdpeppblcijfaaGreatDoorXat
set_option maxRecDepth 1000000
set_option maxHeartbeats 4000000
set_option linter.all false
section
namespace Go.Proofs.YtcdpeppblcijfaaGreatDoor.ifaceOpaque
theorem said:Rows.IfaceOpaqueSaid:=
 OpenClaim.holds_of_cond 8 Tryz.f8 rfl rfl rfl rfl rfl rfl rfl ⟨rfl,rfl,rfl,rfl,rfl⟩ rfl rfl rfl rfl rfl Zyg Tryz.func8 ZC1
  ZC6 Zzv
  (fun os started H enc _ F=>by rw [OpenClaim.pre_eq_preRow];exact ZAP os started H enc F)
theorem ZCi (f:FuncId) (fn:Func) (hf:Tryz.pinned.checked.prog.funcNamed Rows.ifaceOpaqueRow.func=some f) (hfn:Tryz.pinned.checked.prog.funcs[f]? =some fn):
  false=Tryz.pinned.checked.prog.looks []∧ ∀(j:Nat) t,fn.params[j]? =some t→Tryz.pinned.checked.prog.wantsStandIn t=false:=by
 obtain rfl:f=8:=Option.some.inj (Zyg.symm.trans hf)|>.symm
 obtain rfl:fn=Tryz.f8:=(Option.some.inj (Tryz.func8.symm.trans hfn)).symm
 refine ⟨ZyV,fun j t ht=>?_⟩
 rw [Tryz.params8] at ht
 obtain rfl:t=9:=by simpa using Array.mem_of_getElem? ht
 exact ZyW
theorem card:Rows.IfaceOpaqueCardSaid:=
 Claim7.holds_tied_plain_at .later [] _ _ _ _ said (fun _ h=>by cases h) c_wf (fun _ h=>by cases h) ifaceOpaque_row_tie rfl ⟨rfl,rfl⟩ ZAM rfl ZCi ZBu
end Go.Proofs.YtcdpeppblcijfaaGreatDoor.ifaceOpaque
end
