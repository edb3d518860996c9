/- Part. -/
import Derived.Test.YtcdjoaepciegnaaGreatDoorCards
import Derived.Test.YtcdjoaepciegnaaGreatDoorTie
import Derived.WalkKit
import Derived.JoinedCond
import Derived.SevenTiedAt
set_option maxRecDepth 999999
set_option maxHeartbeats 0
set_option linter.all false
section
set_option maxRecDepth 1000000
namespace Go.Proofs.YtcdjoaepciegnaaGreatDoor.middleUses
theorem ZC1:joinedFacts Tryz.pinned.checked.prog 4 Tryz.f4 (OpenSpec.ofChange Rows.middleUsesSpec).bare Rows.middleUsesRow=true:=by
 unfold joinedFacts
 repeat' (with_reducible refine (Bool.and_eq_true_iff).2 ⟨?_,?_⟩)
 all_goals (as_aux_lemma=>kernel_rfl)
end Go.Proofs.YtcdjoaepciegnaaGreatDoor.middleUses
end
section
namespace Go.Proofs.YtcdjoaepciegnaaGreatDoor.middleUses
theorem ZJ1:Tryz.pinned.checked.prog.funcNamed Rows.middleUsesRow.func=some 4:=by kernel_rfl
theorem ZK3:Tryz.f4.isInstance Tryz.pinned.checked.prog Rows.middleUsesRow.origin Rows.middleUsesRow.targs:=of_decide_eq_true (by kernel_rfl)
theorem ZK6:Tryz.f4.isWrapper Tryz.pinned.checked.prog Rows.middleUsesRow.wrapper Rows.middleUsesRow.mainSum:=by unfold Func.isWrapper;first|(rw [if_pos (by decide+kernel)];kernel_rfl)|(rw [if_neg (by decide+kernel)];exact ⟨rfl,rfl⟩)
theorem c_wf:Rows.middleUsesRow.wfByText (OpenSpec.ofChange Rows.middleUsesSpec)=true:=by kernel_rfl
theorem ZAM:Tryz.pinned.checked.prog.mainIs=some (Rows.middleUsesCard.stood.harness.1,Rows.middleUsesCard.stood.harness.2.toList):=by kernel_rfl
theorem ZJr:Tryz.pinned.checked.prog.funcs.toList.all (fun f=> !f.goes)=true:=by kernel_rfl
theorem ZIo {P:Program} (h:P.funcs.toList.all (fun f=> !f.goes)=true) (f:FuncId):P.goes f=false:=by
 have h1: ∀g∈P.funcs.toList,g.goes=false:=fun g hg=>by simpa using List.all_eq_true.1 h g hg
 have h2: ∀(g:Nat),(P.funcs[g]?).any Func.goes=false:=fun g=>by
   cases hg:P.funcs[g]? with
   | none=>rfl
   | some fn=>
     rw [Array.getElem?_eq_some_iff] at hg
     obtain ⟨hg,rfl⟩:=hg
     exact h1 _ (Array.getElem_mem_toList hg)
 unfold Program.goes
 rw [Bool.or_eq_false_iff]
 refine ⟨List.any_eq_false.2 fun g _=>by rw [h2 g];simp,?_⟩
 rw [Bool.and_eq_false_iff]
 refine .inr ?_
 rw [<-Array.any_toList,List.any_eq_false]
 exact fun g hg=>by rw [h1 g hg];simp
theorem ZHg {P:Program} {c:OpenClaim} (hs:c.start= .entering) (h:P.funcs.toList.all (fun f=> !f.goes)=true):false=c.goesBy P:=by
 unfold OpenClaim.goesBy Program.goesAt Program.goesFrom
 rw [hs]
 cases P.funcNamed c.func with
 | none=>rfl
 | some f=>simp [ZIo h f]
theorem ZBu:false=Rows.middleUsesRow.goesBy Tryz.pinned.checked.prog:=ZHg rfl ZJr
theorem ZyV:false=Tryz.pinned.checked.prog.looks []:=by kernel_rfl
theorem ZyW:Tryz.prog.wantsStandIn 43=false:=by kernel_rfl
end Go.Proofs.YtcdjoaepciegnaaGreatDoor.middleUses
end
