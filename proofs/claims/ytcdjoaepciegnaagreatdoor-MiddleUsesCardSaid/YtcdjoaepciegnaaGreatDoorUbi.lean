/- Part. -/
import Derived.Test.YtcdjoaepciegnaaGreatDoorUav
import Derived.Test.YtcdjoaepciegnaaGreatDoorUbg
set_option maxRecDepth 999999
set_option maxHeartbeats 0
set_option linter.all false
section
namespace Go.Am
variable [WI] {Pg:Program}
def Znz {T:Nat->Prop} {pr:Nat->Nat} {ow:Nat->Option Loc} {w w':World} (hB:RowKit.Below w.heap.size w w'):Ext T pr ow w w' pr ow:=
 ⟨hB.os,hB.tape,hB.output,hB.size,fun b o hb=>⟨o,by rw [hB.block b (ZaB hb)];exact hb,.refl _ _⟩,fun _ _=>Yc _,fun b _ ho _=>⟨rfl,ho⟩,fun b hb _ _=>hB.block b hb⟩
theorem Zih {g:G} {w:World} {vs:List Value} {x:A} (h:ZdP g w vs [x]): ∃v,vs=[v]/\RepA g w 0 0 v x:=by
 obtain ⟨hl,h⟩:=h
 match vs,hl with
 | [v],_=>exact ⟨v,rfl,h 0 v x rfl rfl⟩
end Go.Am
end
