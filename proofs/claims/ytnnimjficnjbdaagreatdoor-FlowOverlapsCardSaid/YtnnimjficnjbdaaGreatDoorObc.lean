/- Part. -/
import Derived.Test.YtnnimjficnjbdaaGreatDoorObb
import Derived.Test.YtnnimjficnjbdaaGreatDoorProg
set_option maxRecDepth 999999
set_option maxHeartbeats 0
set_option linter.all false
section
namespace Go.Clo
open Go.Proofs
set_option maxRecDepth 1000000
theorem ZRM:(List.range' 300 100).map (Ld Tryz.prog)=ZRl:=by kernel_rfl
end Go.Clo
end
section
namespace Go.Clo
open Go.Proofs
set_option maxRecDepth 1000000
def tab:List (List Nat):=ck0++(ZRA++(ZRG++(ZRl++(ZRn++(ZRC)))))
def out:List Nat:=cl0++(ZRu++(ZRs++(ZRt++(ZRE++(ZRh)))))
theorem ran:List.range 595=List.range' 0 100++(List.range' 100 100++(List.range' 200 100++(List.range' 300 100++(List.range' 400 100++(List.range' 500 95))))):=by decide+kernel
theorem ZQK:(List.range 595).map (Ld Tryz.prog)=tab:=by
 rw [ran]
 simp only [List.map_append,ld0,ZRQ,ZR9,ZRM,ZRS,ZRV]
 rfl
def M (f:Nat):List Nat:=((ZMS 0 tab).get f).getD []
theorem ZQV:clo2 M 2378 [3] .nil []=out:=by kernel_rfl
theorem ZK1:Tryz.prog.closure 3=out:=
 ZMX Tryz.prog tab 3 2378 out (by kernel_rfl) (by rw [show tab.length=595 by kernel_rfl];exact ZQK) M (fun f=>by unfold M;rw [ZKm];simp) (by kernel_rfl) ZQV
end Go.Clo
end
