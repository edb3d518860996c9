/- Part. -/
import Derived.Test.YtmofclmogldnjaaGreatDoorCards
import Derived.Test.YtmofclmogldnjaaGreatDoorTie
import Derived.WalkKit
import Derived.JoinedCond
import Derived.SevenTiedAt
set_option maxRecDepth 999999
set_option maxHeartbeats 0
set_option linter.all false
section
set_option maxRecDepth 1000000
namespace Go.Proofs.YtmofclmogldnjaaGreatDoor.solveForms
theorem ZzL:joinedFacts Tryz.pinned.checked.prog 5 Tryz.f5 (OpenSpec.ofChange Rows.solveFormsSpec).bare Rows.solveFormsRow=true:=by
 unfold joinedFacts
 repeat' (with_reducible refine (Bool.and_eq_true_iff).2 ⟨?_,?_⟩)
 all_goals (as_aux_lemma=>kernel_rfl)
end Go.Proofs.YtmofclmogldnjaaGreatDoor.solveForms
end
section
namespace Go.Proofs.YtmofclmogldnjaaGreatDoor.solveForms
theorem Zuf:Tryz.pinned.checked.prog.funcNamed Rows.solveFormsRow.func=some 5:=by kernel_rfl
theorem ZzH:Tryz.f5.isInstance Tryz.pinned.checked.prog Rows.solveFormsRow.origin Rows.solveFormsRow.targs:=of_decide_eq_true (by kernel_rfl)
theorem ZzS:Tryz.f5.isWrapper Tryz.pinned.checked.prog Rows.solveFormsRow.wrapper Rows.solveFormsRow.mainSum:=by unfold Func.isWrapper;first|(rw [if_pos (by decide+kernel)];kernel_rfl)|(rw [if_neg (by decide+kernel)];exact ⟨rfl,rfl⟩)
theorem c_wf:Rows.solveFormsRow.wfByText (OpenSpec.ofChange Rows.solveFormsSpec)=true:=by kernel_rfl
theorem Zxg:Tryz.pinned.checked.prog.mainIs=some (Rows.solveFormsCard.stood.harness.1,Rows.solveFormsCard.stood.harness.2.toList):=by kernel_rfl
theorem ZsY:Tryz.pinned.checked.prog.funcs.toList.all (fun f=> !f.goes)=true:=by kernel_rfl
theorem ZqD {P:Program} (h:P.funcs.toList.all (fun f=> !f.goes)=true) (f:FuncId):P.goes f=false:=by
 have h1: ∀g∈P.funcs.toList,g.goes=false:=fun g hg=>by simpa using List.all_eq_true.1 h g hg
 have h2: ∀(g:Nat),(P.funcs[g]?).any Func.goes=false:=fun g=>by
   cases hg:P.funcs[g]? with
   | none=>rfl
   | some fn=>
     rw [Array.getElem?_eq_some_iff] at hg
     obtain ⟨hg,rfl⟩:=hg
     exact h1 _ (Array.getElem_mem_toList hg)
 unfold Program.goes
 rw [Bool.or_eq_false_iff]
 refine ⟨List.any_eq_false.2 fun g _=>by rw [h2 g];simp,?_⟩
 rw [Bool.and_eq_false_iff]
 refine .inr ?_
 rw [<-Array.any_toList,List.any_eq_false]
 exact fun g hg=>by rw [h1 g hg];simp
theorem ZmP {P:Program} {c:OpenClaim} (hs:c.start= .entering) (h:P.funcs.toList.all (fun f=> !f.goes)=true):false=c.goesBy P:=by
 unfold OpenClaim.goesBy Program.goesAt Program.goesFrom
 rw [hs]
 cases P.funcNamed c.func with
 | none=>rfl
 | some f=>simp [ZqD h f]
theorem Zyi:false=Rows.solveFormsRow.goesBy Tryz.pinned.checked.prog:=ZmP rfl ZsY
theorem ZtU:false=Tryz.pinned.checked.prog.looks []:=by kernel_rfl
theorem ZpF:Tryz.prog.wantsStandIn 59=false:=by kernel_rfl
theorem Zpv:Tryz.prog.wantsStandIn 60=false:=by kernel_rfl
end Go.Proofs.YtmofclmogldnjaaGreatDoor.solveForms
end
