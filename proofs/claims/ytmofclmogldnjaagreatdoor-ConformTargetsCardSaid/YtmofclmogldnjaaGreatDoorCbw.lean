/- Part. -/
import Derived.Test.YtmofclmogldnjaaGreatDoorCbu
import Derived.Test.YtmofclmogldnjaaGreatDoorCards
import Derived.Test.YtmofclmogldnjaaGreatDoorTie
import Derived.WalkKit
import Derived.ProofKit
import Derived.OpenShut
import Derived.Deep.DeepHandedRow
import Derived.Lib.LaidTab
import Derived.Stop.LaidErr
import Derived.ShapedOpen
import Derived.LaidMore
set_option maxRecDepth 999999
set_option maxHeartbeats 0
set_option linter.all false
section
namespace Go.Proofs
open Go.ChangeShapes Go.WideShapes Go.ChangeAt Go.RowKit Go.WideElems
variable {H:Type} {enc:TypeId×Value->H} {P:Program}
def Zor {W W':World} (h:Below W.heap.size W W') (may:MemPlace->Prop):W.keptBut W' may:=by
 refine ⟨h.os,h.output,fun i hi=>?_⟩;rw [h.block i hi];cases W.heap[i]? with
 | none=>rfl
 | some o=>
   cases o with
   | cells c t fr=>exact ⟨rfl,rfl,rfl,fun _ _=>rfl⟩
   | map es c=>exact Or.inr ⟨rfl,rfl⟩
   | _=>rfl
theorem Tryz.gPow : Tryz.prog.globalNamed "internal/strconv.uint64pow10" = some 1 := by kernel_rfl
def Tryz.gPowType:(Tryz.prog.globals[1]?).map (·.type)=some 477:=by kernel_rfl
def Tryz.cells477:Tryz.prog.cellsOf 477=20:=by kernel_rfl
def Tryz.cells446:Tryz.prog.cellsOf 446=1:=by kernel_rfl
def Tryz.own:ownKnob Tryz.prog.godebug=none:=by kernel_rfl
abbrev Tryz.laid3:List (String×DataW Unit):=YtmofclmogldnjaaGreatDoor.Rows.metaEntriesRow.laid
def Tryz.tab_of_laid {W:World} (h:laidMetH Tryz.prog Tryz.laid3 W):Lib.TabIs Tryz.prog W Am.ZhA .u64 Lib.pow10Tab:=by
 rw [MakeChecks.laidMetH_plain _ _ _ (by kernel_rfl)] at h;exact Lib.tabIs_of_head (rest:=[]) Tryz.gPow Tryz.gPowType Tryz.underlying477 Tryz.underlying446 Tryz.cells446 Tryz.cells477 h.tail.tail
def Tryz.max_of_shaped {W:World} (h:W.ShapedOpen Tryz.prog): ∃m,W.cell? ⟨0,0,none⟩=some (.int .i64 m):=Go.Proofs.cell_of_shapedOpen_int (zero:= #[.int .i64 0]) (t:=3) h (of_decide_eq_true (by kernel_rfl)) (by kernel_rfl) rfl (by kernel_rfl) (by kernel_rfl) Tryz.underlying3
noncomputable def Tryz.laidW (os:Os):World:=World.doorLaid Tryz.prog 24 os
end Go.Proofs
end
