/- Part. -/
import Derived.Shelf.Strings.Builder1
import Derived.Shelf.Strings.Builder2
import Derived.Shelf.Strings.OnBuilder
import Derived.Shelf.Small.Bits
import Derived.Shelf.Small.Strs
import Derived.Shelf.Strings.BuilderF
import Derived.Shelf.Strings.BuilderK
import Derived.Shelf.Strings.Builder2Cap
import Derived.Shelf.Strconv.Itoa0
import Derived.Shelf.Strconv.Itoa1
import Derived.Shelf.LaysM
import Derived.Shelf.Strconv.Itoa2
import Derived.Shelf.Strconv.Itoa3
import Derived.Shelf.Sort.Plain
import Derived.Shelf.Strings.BuilderCap
import Derived.Ground.Names2Prog
import Derived.Shelf.Slices.ReverseS
import Derived.Shelf.Slices.Clone
import Derived.Shelf.Slices.CompactI
import Derived.Shelf.Slices.CompactS
import Derived.Shelf.Slices.SearchI
import Derived.Shelf.Slices.Cells
import Derived.Shelf.Slices.In.SortNone
import Derived.Ground.SlgnProg
import Derived.Shelf.SlicesE.Clone
import Derived.Test.YtmofclmogldnjaaGreatDoorProg
set_option maxRecDepth 999999
set_option maxHeartbeats 0
set_option linter.all false
section
namespace Go.Proofs
open Go.Shelf
open Go.RowKit in
open Go.RowKit in
open Go.RowKit in
open Go.RowKit in
open Go.RowKit in
open Go.RowKit in
open Go.RowKit in
def Tryz.lays213_ren:Go.Shelf.Ren:=⟨fun|213=>287|265=>327|n=>n,fun|9=>9|3=>3|n=>n,fun|n=>n⟩
theorem Tryz.lays213:Go.Proofs.Lays.n213 Tryz.prog Tryz.lays213_ren:={
 mixed:=by kernel_rfl
 f213:=Tryz.func287.trans (congrArg some (by kernel_rfl))
 f265:=Tryz.func327.trans (congrArg some (by kernel_rfl))
 t3:=Tryz.underlying3
 a3:=Tryz.isAgg3
 z3:=Tryz.sizeOf3
 v3:=Tryz.zeroValue3
 t9:=Tryz.underlying9
 a9:=Tryz.isAgg9
 z9:=Tryz.sizeOf9
 v9:=Tryz.zeroValue9}
open Go.RowKit in
theorem Tryz.bytealg_CompareString (a b:ByteArray) (w:World):
 Calls Tryz.prog 287 #[.string a,.string b] w fun e w'=>e= .returned (.int .i64 (Lib.compareBytes a.data.toList b.data.toList))/\w'=w:=Any.bytealg_CompareString Tryz.lays213 a b w
open Go.RowKit in
open Go.RowKit in
open Go.RowKit in
open Go.RowKit in
open Go.RowKit in
open Go.RowKit in
open Go.RowKit in
open Go.RowKit in
open Go.RowKit in
open Go.Lib in
open Go.Lib in
open Go.Lib in
open Go.Lib in
open Go.RowKit Go.Sort Go.Lib in
open Go.RowKit Go.Sort Go.Lib in
open Go.RowKit Go.Sort Go.Lib in
open Go.RowKit Go.Sort Go.Lib in
open Go.RowKit Go.Sort Go.Lib in
open Go.RowKit Go.Sort Go.Lib in
open Go.RowKit Go.Sort Go.Lib in
def Tryz.lays189_ren:Go.Shelf.Ren:=⟨fun|189=>288|125=>322|257=>328|128=>360|129=>361|294=>362|295=>363|296=>364|297=>365|298=>366|299=>367|216=>368|300=>369|301=>370|328=>395|329=>390|330=>391|331=>396|332=>397|215=>286|343=>410|n=>n,fun|28=>60|3=>3|46=>116|0=>0|51=>444|53=>446|4=>4|183=>437|182=>436|131=>244|5=>5|9=>9|218=>463|222=>467|228=>479|229=>139|n=>n,fun|n=>n⟩
theorem Tryz.lays189:Go.Proofs.Lays.n189 Tryz.prog Tryz.lays189_ren:={
 mixed:=by kernel_rfl
 f125:=Tryz.func322.trans (congrArg some (by kernel_rfl))
 f128:=Tryz.func360.trans (congrArg some (by kernel_rfl))
 f129:=Tryz.func361.trans (congrArg some (by kernel_rfl))
 f189:=Tryz.func288.trans (congrArg some (by kernel_rfl))
 f215:=Tryz.func286.trans (congrArg some (by kernel_rfl))
 f216:=Tryz.func368.trans (congrArg some (by kernel_rfl))
 f257:=Tryz.func328.trans (congrArg some (by kernel_rfl))
 f294:=Tryz.func362.trans (congrArg some (by kernel_rfl))
 f295:=Tryz.func363.trans (congrArg some (by kernel_rfl))
 f296:=Tryz.func364.trans (congrArg some (by kernel_rfl))
 f297:=Tryz.func365.trans (congrArg some (by kernel_rfl))
 f298:=Tryz.func366.trans (congrArg some (by kernel_rfl))
 f299:=Tryz.func367.trans (congrArg some (by kernel_rfl))
 f300:=Tryz.func369.trans (congrArg some (by kernel_rfl))
 f301:=Tryz.func370.trans (congrArg some (by kernel_rfl))
 f328:=Tryz.func395.trans (congrArg some (by kernel_rfl))
 f329:=Tryz.func390.trans (congrArg some (by kernel_rfl))
 f330:=Tryz.func391.trans (congrArg some (by kernel_rfl))
 f331:=Tryz.func396.trans (congrArg some (by kernel_rfl))
 f332:=Tryz.func397.trans (congrArg some (by kernel_rfl))
 f343:=Tryz.func410.trans (congrArg some (by kernel_rfl))
 t0:=Tryz.underlying0
 a0:=Tryz.isAgg0
 z0:=Tryz.sizeOf0
 v0:=Tryz.zeroValue0
 t3:=Tryz.underlying3
 a3:=Tryz.isAgg3
 z3:=Tryz.sizeOf3
 v3:=Tryz.zeroValue3
 t4:=Tryz.underlying4
 a4:=Tryz.isAgg4
 z4:=Tryz.sizeOf4
 v4:=Tryz.zeroValue4
 t5:=Tryz.underlying5
 a5:=Tryz.isAgg5
 z5:=Tryz.sizeOf5
 v5:=Tryz.zeroValue5
 t9:=Tryz.underlying9
 a9:=Tryz.isAgg9
 z9:=Tryz.sizeOf9
 v9:=Tryz.zeroValue9
 t28:=Tryz.underlying60
 a28:=Tryz.isAgg60
 z28:=Tryz.sizeOf60
 v28:=Tryz.zeroValue60
 t46:=Tryz.underlying116
 a46:=Tryz.isAgg116
 z46:=Tryz.sizeOf116
 v46:=Tryz.zeroValue116
 t51:=Tryz.underlying444
 a51:=Tryz.isAgg444
 z51:=Tryz.sizeOf444
 v51:=Tryz.zeroValue444
 t53:=Tryz.underlying446
 a53:=Tryz.isAgg446
 z53:=Tryz.sizeOf446
 v53:=Tryz.zeroValue446
 t131:=Tryz.underlying244
 a131:=Tryz.isAgg244
 z131:=Tryz.sizeOf244
 v131:=Tryz.zeroValue244
 t182:=Tryz.underlying436
 a182:=Tryz.isAgg436
 z182:=Tryz.sizeOf436
 v182:=Tryz.zeroValue436
 t183:=Tryz.underlying437
 a183:=Tryz.isAgg437
 z183:=Tryz.sizeOf437
 v183:=Tryz.zeroValue437
 t218:=Tryz.underlying463
 a218:=Tryz.isAgg463
 z218:=Tryz.sizeOf463
 v218:=Tryz.zeroValue463
 t222:=Tryz.underlying467
 a222:=Tryz.isAgg467
 z222:=Tryz.sizeOf467
 v222:=Tryz.zeroValue467
 t228:=Tryz.underlying479
 a228:=Tryz.isAgg479
 z228:=Tryz.sizeOf479
 v228:=Tryz.zeroValue479
 t229:=Tryz.underlying139
 a229:=Tryz.isAgg139
 z229:=Tryz.sizeOf139
 v229:=Tryz.zeroValue139}
open Go.Sort Go.RowKit in
theorem Tryz.slices_Sort_int (blk off cap:Nat) (zs:List Int) (w:World) (hH:Holds (Value.int .i64) w blk off zs.toArray) (hblk:blk<w.heap.size) (hsz:zs.length<4611686018427387904):
 Calls Tryz.prog 288 #[.slice (some ⟨blk,off,none⟩) zs.length cap] w fun e w'=>
  e= .returned (.tuple #[])/\ ∃n os,w'=grow (putRow (Value.int .i64) (Sort.ahead w n) blk off (zs.mergeSort fun x y=>decide (x<=y)).toArray) os:=Any.slices_Sort_int Tryz.lays189 blk off cap zs w hH hblk hsz
open Go.Sort Go.RowKit in
open Go.RowKit Go.Lib Go.Sort in
open Go.RowKit Go.Lib Go.Sort in
open Go.RowKit Go.Lib Go.Sort in
open Go.RowKit Go.Lib in
open Go.RowKit Go.Lib in
open Go.RowKit Go.Lib in
def Tryz.laysNm220_ren:Go.Shelf.Ren:=⟨fun|20=>289|n=>n,fun|22=>60|3=>3|4=>4|0=>0|n=>n,fun|n=>n⟩
theorem Tryz.laysNm220:Go.Proofs.Lays2.n20 Tryz.prog Tryz.laysNm220_ren:={
 mixed:=by kernel_rfl
 f20:=Tryz.func289.trans (congrArg some (by kernel_rfl))
 t0:=Tryz.underlying0
 a0:=Tryz.isAgg0
 z0:=Tryz.sizeOf0
 v0:=Tryz.zeroValue0
 t3:=Tryz.underlying3
 a3:=Tryz.isAgg3
 z3:=Tryz.sizeOf3
 v3:=Tryz.zeroValue3
 t4:=Tryz.underlying4
 a4:=Tryz.isAgg4
 z4:=Tryz.sizeOf4
 v4:=Tryz.zeroValue4
 t22:=Tryz.underlying60
 a22:=Tryz.isAgg60
 z22:=Tryz.sizeOf60
 v22:=Tryz.zeroValue60
 i3:=by kernel_rfl}
open Go.RowKit Go.Lib Go.Sort in
open Go.RowKit Go.Lib Go.Sort in
theorem Tryz.slices_Compact_int (blk off cap:Nat) (zs:List Int) (w:World) (hH:Holds (Value.int .i64) w blk off zs.toArray) (hsz:zs.length<=9223372036854775807) (hcap:zs.length<=cap):
 Calls Tryz.prog 289 #[.slice (some ⟨blk,off,none⟩) zs.length cap] w fun e w'=>e= .returned (.slice (some ⟨blk,off,none⟩) (Lib.compact zs).length cap)/\ ∃q,w'=putRow (Value.int .i64) (Sort.ahead w q) blk off (Lib.compact zs++List.replicate (zs.length-(Lib.compact zs).length) 0).toArray:=Any.slices_Compact_int Tryz.laysNm220 blk off cap zs w hH hsz hcap
open Go.RowKit Go.Lib Go.Sort in
theorem Tryz.slices_Compact_int_empty (a:Option Addr) (cap:Nat) (w:World):
 Calls Tryz.prog 289 #[.slice a 0 cap] w fun e w'=>e= .returned (.slice a 0 cap)/\w'=w:=Any.slices_Compact_int_empty Tryz.laysNm220 a cap w
open Go.RowKit Go.Lib Go.Sort in
open Go.RowKit Go.Lib Go.Sort in
open Go.RowKit Go.Lib Go.Sort in
open Go.RowKit Go.Lib in
open Go.RowKit Go.Lib in
open Go.RowKit Go.Lib Go.Sort in
open Go.RowKit Go.Lib Go.Sort in
open Go.RowKit Go.Lib Go.Sort in
open Go.RowKit Go.Sort in
open Go.RowKit Go.Sort in
theorem Tryz.slices_Sort_int_none (p:Option Addr) (cap:Nat) (w:World):
 Calls Tryz.prog 288 #[.slice p 0 cap] w fun e w'=>e= .returned (.tuple #[])/\w'=w:=Any.slices_Sort_int_none Tryz.lays189 p cap w
def Tryz.laysSlE041_f318_ren:Go.Shelf.Ren:=⟨fun|41=>318|n=>n,fun|22=>28|23=>9|4=>4|n=>n,fun|n=>n⟩
theorem Tryz.laysSlE041_f318:Go.Proofs.SlLaysE0.n41 Tryz.prog Tryz.laysSlE041_f318_ren:={
 mixed:=by kernel_rfl
 f41:=⟨Tryz.f318.name,by decide,Tryz.func318.trans (congrArg some (by kernel_rfl))⟩
 t4:=Tryz.underlying4
 a4:=Tryz.isAgg4
 z4:=Tryz.sizeOf4
 v4:=Tryz.zeroValue4
 t22:=Tryz.underlying28
 a22:=Tryz.isAgg28
 z22:=Tryz.sizeOf28
 v22:=Tryz.zeroValue28}
open Go.RowKit Go.Lib in
theorem Tryz.slices_Clone (i0:TypeInfo) (z:Value) (size bytes:Nat) (hi:Tryz.prog.info? 9=some i0) (hz0:i0.zero=some z) (hz1:i0.size=size) (hz2:i0.bytes=bytes) (hzs:z.cells.size=size) (hsz:0<size) (z23: ∀w,(Go.sizeOf 9).run Tryz.prog w= .ok size w) (b off n c:Nat) (news:List Value) (w:World) (hl:news.length=n*size) (hn:n<=maxLen) (hbig:n*bytes<=140737488355328) (hc: ∀j u,news[j]? =some u->w.cell? ⟨b,off+j,none⟩=some u) (h1: ∀u∈news,u.oneCell'=true):
 Calls Tryz.prog 318 #[.slice (some ⟨b,off,none⟩) n c] w fun e w'=> ∃v',e= .returned v'/\w'.ownsRow w.heap.size 9 size v' n news/\v'≠ .slice none 0 0/\Below w.heap.size w w':=AnyE.slices_Clone Tryz.laysSlE041_f318 i0 z size bytes hi hz0 hz1 hz2 hzs hsz z23 b off n c news w hl hn hbig hc h1
open Go.RowKit Go.Lib in
theorem Tryz.slices_Clone_nil (n c:Nat) (w:World):
 Calls Tryz.prog 318 #[.slice none n c] w fun e w'=>e= .returned (.slice none 0 0)/\w'=w:=AnyE.slices_Clone_nil Tryz.laysSlE041_f318 n c w
end Go.Proofs
end
