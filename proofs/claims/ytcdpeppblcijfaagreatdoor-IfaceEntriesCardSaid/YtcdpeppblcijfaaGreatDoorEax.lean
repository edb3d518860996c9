/- Part. -/
import Derived.Test.YtcdpeppblcijfaaGreatDoorEaw
set_option maxRecDepth 999999
set_option maxHeartbeats 0
set_option linter.all false
section
namespace Go.Am.Fe
variable {S:SF} {Q:QF}
attribute [local simp] ZbO if_pos if_neg decide_eq_true decide_eq_false Yi Yj ZgF Ops.callv List.idxOf?_cons
def No.okn (x:No):Prop:=x.ok/\Sns x.gs
abbrev st2 (m1 m2:Mo) (b:List Rz):List LC:=[RS m1 m2 b,[.ref ⟨false,0,0⟩]]
end Go.Am.Fe
end
