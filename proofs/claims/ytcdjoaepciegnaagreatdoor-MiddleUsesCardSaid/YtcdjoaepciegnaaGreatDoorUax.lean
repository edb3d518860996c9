/- Part. -/
import Derived.Test.YtcdjoaepciegnaaGreatDoorUav
import Derived.Test.YtcdjoaepciegnaaGreatDoorProg
set_option maxRecDepth 999999
set_option maxHeartbeats 0
set_option linter.all false
section
namespace Go.Am.Fe
open Go.Proofs
set_option maxRecDepth 1000000
def ZKN:List (Nat×SFunc):=[(ZDQ,ZEc),(ZEa,ZEt),(ZD1,ZE8),(ZFF,ZGC),(ZDL,ZD4),(ZEG,ZFO),(ZE1,ZFK),(ZD8,ZEs),(ZFz,ZGq),(ZDO,ZDY),(ZEh,ZFb),(ZcY,ZgV)]
def ZJC:ZKN.all (fun p=>ZiH Tryz.prog p.1 p.2)=true:=by kernel_rfl
def ZKI:[(ZDy,ZDD),(ZDy,ZDB),(ZDC,ZDP),(ZDC,ZDM),(ZDA,ZDK),(ZDA,ZDG)].all (fun p=>ZiH Tryz.prog p.1 p.2)=true:=by kernel_rfl
end Go.Am.Fe
end
