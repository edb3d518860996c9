/- Part. -/
import Derived.Test.YtnnimjficnjbdaaGreatDoorCards
import Derived.Test.YtnnimjficnjbdaaGreatDoorTie
import Derived.WalkKit
import Derived.JoinedCond
import Derived.SevenTiedAt
set_option maxRecDepth 999999
set_option maxHeartbeats 0
set_option linter.all false
section
namespace Go.Proofs.YtnnimjficnjbdaaGreatDoor.flowOverlaps
theorem ZGr:Tryz.pinned.checked.prog.funcNamed Rows.flowOverlapsRow.func=some 3:=by kernel_rfl
theorem ZGW:Tryz.f3.isInstance Tryz.pinned.checked.prog Rows.flowOverlapsRow.origin Rows.flowOverlapsRow.targs:=of_decide_eq_true (by kernel_rfl)
theorem ZGM:Tryz.f3.isWrapper Tryz.pinned.checked.prog Rows.flowOverlapsRow.wrapper Rows.flowOverlapsRow.mainSum:=by unfold Func.isWrapper;first|(rw [if_pos (by decide+kernel)];kernel_rfl)|(rw [if_neg (by decide+kernel)];exact ⟨rfl,rfl⟩)
theorem c_wf:Rows.flowOverlapsRow.wfByText (OpenSpec.ofChange Rows.flowOverlapsSpec)=true:=by kernel_rfl
theorem ZAM:Tryz.pinned.checked.prog.mainIs=some (Rows.flowOverlapsCard.stood.harness.1,Rows.flowOverlapsCard.stood.harness.2.toList):=by kernel_rfl
theorem ZOP:Tryz.pinned.checked.prog.funcs.toList.all (fun f=> !f.goes)=true:=by kernel_rfl
theorem ZNo {P:Program} (h:P.funcs.toList.all (fun f=> !f.goes)=true) (f:FuncId):P.goes f=false:=by
 have h1: ∀g∈P.funcs.toList,g.goes=false:=fun g hg=>by simpa using List.all_eq_true.1 h g hg
 have h2: ∀(g:Nat),(P.funcs[g]?).any Func.goes=false:=fun g=>by
   cases hg:P.funcs[g]? with
   | none=>rfl
   | some fn=>
     rw [Array.getElem?_eq_some_iff] at hg
     obtain ⟨hg,rfl⟩:=hg
     exact h1 _ (Array.getElem_mem_toList hg)
 unfold Program.goes
 rw [Bool.or_eq_false_iff]
 refine ⟨List.any_eq_false.2 fun g _=>by rw [h2 g];simp,?_⟩
 rw [Bool.and_eq_false_iff]
 refine .inr ?_
 rw [<-Array.any_toList,List.any_eq_false]
 exact fun g hg=>by rw [h1 g hg];simp
theorem ZLJ {P:Program} {c:OpenClaim} (hs:c.start= .entering) (h:P.funcs.toList.all (fun f=> !f.goes)=true):false=c.goesBy P:=by
 unfold OpenClaim.goesBy Program.goesAt Program.goesFrom
 rw [hs]
 cases P.funcNamed c.func with
 | none=>rfl
 | some f=>simp [ZNo h f]
theorem ZBu:false=Rows.flowOverlapsRow.goesBy Tryz.pinned.checked.prog:=ZLJ rfl ZOP
theorem ZyV:true=Tryz.pinned.checked.prog.looks []:=by kernel_rfl
theorem ZLp:Tryz.prog.wantsStandIn 27=false:=by kernel_rfl
end Go.Proofs.YtnnimjficnjbdaaGreatDoor.flowOverlaps
end
