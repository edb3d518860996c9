/- Part. -/
import Derived.Test.YtnnimjficnjbdaaGreatDoorObc
import Derived.Test.YtnnimjficnjbdaaGreatDoorObd
import Derived.Test.YtnnimjficnjbdaaGreatDoorObe
import Derived.Test.YtnnimjficnjbdaaGreatDoorCards
import Derived.Test.YtnnimjficnjbdaaGreatDoorTie
import Derived.WalkKit
import Derived.JoinedCond
import Derived.SevenTiedAt
set_option maxRecDepth 999999
set_option maxHeartbeats 0
set_option linter.all false
section
set_option maxRecDepth 1000000
namespace Go.Proofs.YtnnimjficnjbdaaGreatDoor.flowOverlaps
open Go.Clo
theorem ZRm:Tryz.prog.unfollowed 3=true:=by
 unfold Program.unfollowed
 rw [ZK1]
 kernel_rfl
theorem ZSb:Tryz.prog.recurses 3=true:=by
 unfold Program.recurses
 rw [ZRm]
 rfl
theorem ZR1:(Rows.flowOverlapsRow.inPlace==Tryz.prog.inPlace 3)=true:=by
 unfold Program.inPlace
 rw [ZK1]
 kernel_rfl
theorem ZQO:out.flatMap glob=[1,2,3]:=by
 unfold out
 simp only [List.flatMap_append,gl0,ZR4,ZR6,ZR3,ZRT,ZRW]
 rfl
theorem ZRN:(Rows.flowOverlapsRow.named==Tryz.prog.varsNamed 3)=true:=by
 unfold Program.varsNamed
 rw [ZK1]
 show (_==((((out.flatMap glob).eraseDups).filterMap _)++_).eraseDups)=true
 rw [ZQO]
 kernel_rfl
theorem ZQY:(Rows.flowOverlapsRow.inPlace==Tryz.pinned.checked.prog.inPlace 3)=true:=ZR1
theorem ZQM:(Rows.flowOverlapsRow.unfollowed==Tryz.pinned.checked.prog.unfollowed 3)=true:=by
 show (true==Tryz.prog.unfollowed 3)=true
 rw [ZRm];rfl
theorem ZRd:(Rows.flowOverlapsRow.recurses==Tryz.pinned.checked.prog.recurses 3)=true:=by
 show (true==Tryz.prog.recurses 3)=true
 rw [ZSb];rfl
theorem ZRb:(Rows.flowOverlapsRow.named==Tryz.pinned.checked.prog.varsNamed 3)=true:=ZRN
end Go.Proofs.YtnnimjficnjbdaaGreatDoor.flowOverlaps
end
