/- Part. -/
import Derived.Test.YtmofclmogldnjaaGreatDoorSbd
import Derived.Test.YtmofclmogldnjaaGreatDoorSak
set_option maxRecDepth 999999
set_option maxHeartbeats 0
set_option linter.all false
section
namespace Go.Proofs.YtmofclmogldnjaaGreatDoor.solveForms
theorem said:Rows.SolveFormsSaid:=
 OpenClaim.holds_of_cond 5 Tryz.f5 rfl rfl rfl rfl rfl rfl rfl ⟨rfl,rfl,rfl,rfl,rfl⟩ rfl rfl rfl rfl rfl Zuf Tryz.func5 ZzL
  ZzH ZzS
  (fun os started H enc _ F=>by rw [OpenClaim.pre_eq_preRow];exact ZyW os started H enc F)
def ZyI (f:FuncId) (fn:Func) (hf:Tryz.pinned.checked.prog.funcNamed Rows.solveFormsRow.func=some f) (hfn:Tryz.pinned.checked.prog.funcs[f]? =some fn):
  false=Tryz.pinned.checked.prog.looks []/\ ∀(j:Nat) t,fn.params[j]? =some t->Tryz.pinned.checked.prog.wantsStandIn t=false:=by
 obtain rfl:f=5:=Option.some.inj (Zuf.symm.trans hf)|>.symm
 obtain rfl:fn=Tryz.f5:=(Option.some.inj (Tryz.func5.symm.trans hfn)).symm
 refine ⟨ZtU,fun j t ht=>?_⟩
 rw [Tryz.params5] at ht
 have h:t=59∨t=60:=by simpa using Array.mem_of_getElem? ht
 rcases h with rfl|rfl
 ·exact ZpF
 ·exact Zpv
theorem card:Rows.SolveFormsCardSaid:=
 Claim7.holds_tied_plain_at .later [] _ _ _ _ said (fun _ h=>by cases h) c_wf (fun _ h=>by cases h) solveForms_row_tie rfl ⟨rfl,rfl⟩ Zxg rfl ZyI Zyi
end Go.Proofs.YtmofclmogldnjaaGreatDoor.solveForms
end
