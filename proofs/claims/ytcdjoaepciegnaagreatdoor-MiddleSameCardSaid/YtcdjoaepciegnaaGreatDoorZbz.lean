/- Part. -/
import Derived.Test.YtcdjoaepciegnaaGreatDoorZbx
import Derived.Test.YtcdjoaepciegnaaGreatDoorCards
import Derived.Test.YtcdjoaepciegnaaGreatDoorTie
import Derived.WalkKit
import Derived.ProofKit
import Derived.OpenShut
import Derived.Deep.DeepHandedRow
import Derived.Lib.LaidTab
import Derived.Stop.LaidErr
import Derived.ShapedOpen
import Derived.LaidMore
set_option maxRecDepth 999999
set_option maxHeartbeats 0
set_option linter.all false
section
namespace Go.Proofs
open Go.ChangeShapes Go.WideShapes Go.ChangeAt Go.RowKit Go.WideElems
variable {H:Type} {enc:TypeId×Value->H} {P:Program}
def Zor {W W':World} (h:Below W.heap.size W W') (may:MemPlace->Prop):W.keptBut W' may:=by
 refine ⟨h.os,h.output,fun i hi=>?_⟩;rw [h.block i hi];cases W.heap[i]? with
 | none=>rfl
 | some o=>
   cases o with
   | cells c t fr=>exact ⟨rfl,rfl,rfl,fun _ _=>rfl⟩
   | map es c=>exact Or.inr ⟨rfl,rfl⟩
   | _=>rfl
theorem Tryz.gPow : Tryz.prog.globalNamed "internal/strconv.uint64pow10" = some 1 := by kernel_rfl
def Tryz.gPowType:(Tryz.prog.globals[1]?).map (·.type)=some 542:=by kernel_rfl
def Tryz.cells542:Tryz.prog.cellsOf 542=20:=by kernel_rfl
def Tryz.cells334:Tryz.prog.cellsOf 334=1:=by kernel_rfl
def Tryz.own:ownKnob Tryz.prog.godebug=none:=by kernel_rfl
abbrev Tryz.laid3:List (String×DataW Unit):=YtcdjoaepciegnaaGreatDoor.Rows.middleTablesRow.laid
def Tryz.tab_of_laid {W:World} (h:laidMetH Tryz.prog Tryz.laid3 W):Lib.TabIs Tryz.prog W Am.ZhA .u64 Lib.pow10Tab:=by
 rw [MakeChecks.laidMetH_plain _ _ _ (by kernel_rfl)] at h;exact Lib.tabIs_of_head (rest:=[]) Tryz.gPow Tryz.gPowType Tryz.underlying542 Tryz.underlying334 Tryz.cells334 Tryz.cells542 h.tail.tail
def Tryz.max_of_shaped {W:World} (h:W.ShapedOpen Tryz.prog): ∃m,W.cell? ⟨0,0,none⟩=some (.int .i64 m):=Tryz.laysM219.s1_3 W h
noncomputable def Tryz.laidW (os:Os):World:=World.doorLaid Tryz.prog 24 os
end Go.Proofs
end
