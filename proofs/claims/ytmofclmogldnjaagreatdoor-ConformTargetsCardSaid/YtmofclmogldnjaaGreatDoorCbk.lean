/- Part. -/
import Derived.Shelf.Strings.Builder1
import Derived.Shelf.Strings.Builder2
import Derived.Shelf.Strings.OnBuilder
import Derived.Shelf.Small.Strs
import Derived.Shelf.Strings.BuilderF
import Derived.Shelf.Strings.BuilderK
import Derived.Shelf.Strings.Builder2Cap
import Derived.Shelf.Strconv.Itoa0
import Derived.Shelf.Strconv.Itoa1
import Derived.Shelf.LaysM
import Derived.Shelf.Strconv.Itoa2
import Derived.Shelf.Strconv.Itoa3
import Derived.Shelf.Strings.BuilderCap
import Derived.Ground.Names2Prog
import Derived.Shelf.Slices.Clone
import Derived.Ground.SlgnProg
import Derived.Shelf.SlicesE.Clone
import Derived.Test.YtmofclmogldnjaaGreatDoorProg
set_option maxRecDepth 999999
set_option maxHeartbeats 0
set_option linter.all false
section
namespace Go.Proofs
open Go.Shelf
def Tryz.lays169_ren:Go.Shelf.Ren:=⟨fun|169=>198|n=>n,fun|70=>301|9=>9|0=>0|72=>303|37=>289|127=>349|3=>3|5=>5|n=>n,fun|n=>n⟩
theorem Tryz.lays169:Go.Proofs.Lays.n169 Tryz.prog Tryz.lays169_ren:={
 mixed:=by kernel_rfl
 f169:=Tryz.func198.trans (congrArg some (by kernel_rfl))
 t0:=Tryz.underlying0
 a0:=Tryz.isAgg0
 z0:=Tryz.sizeOf0
 v0:=Tryz.zeroValue0
 t3:=Tryz.underlying3
 a3:=Tryz.isAgg3
 z3:=Tryz.sizeOf3
 v3:=Tryz.zeroValue3
 t9:=Tryz.underlying9
 a9:=Tryz.isAgg9
 z9:=Tryz.sizeOf9
 v9:=Tryz.zeroValue9
 t37:=Tryz.underlying289
 a37:=Tryz.isAgg289
 z37:=Tryz.sizeOf289
 v37:=Tryz.zeroValue289
 t70:=Tryz.underlying301
 a70:=Tryz.isAgg301
 z70:=Tryz.sizeOf301
 v70:=Tryz.zeroValue301
 t72:=Tryz.underlying303
 a72:=Tryz.isAgg303
 z72:=Tryz.sizeOf303
 v72:=Tryz.zeroValue303
 t127:=Tryz.underlying349
 a127:=Tryz.isAgg349
 z127:=Tryz.sizeOf349
 v127:=Tryz.zeroValue349}
theorem Tryz.Builder_Extra_169:Builder.Extra Tryz.prog Tryz.lays169_ren:={
 sizeBuilder:=by kernel_rfl
 liesBuilder:=by kernel_rfl
 t5:=Tryz.underlying5
 a5:=Tryz.isAgg5
 z5:=Tryz.sizeOf5
 v5:=Tryz.zeroValue5
 infoByte:=by kernel_rfl
 cellsByte:=by kernel_rfl
 sizeByte:=by kernel_rfl
 neB5:=by decide}
open Go.RowKit in
open Go.RowKit in
open Go.RowKit in
open Go.RowKit in
open Go.RowKit in
def Tryz.lays156_ren:Go.Shelf.Ren:=⟨fun|156=>196|165=>251|166=>195|169=>198|240=>250|241=>295|276=>294|277=>337|n=>n,fun|31=>28|9=>9|3=>3|4=>4|0=>0|20=>20|72=>303|76=>306|70=>301|37=>289|75=>305|127=>349|164=>397|5=>5|80=>310|n=>n,fun|n=>n⟩
theorem Tryz.lays156:Go.Proofs.Lays.n156 Tryz.prog Tryz.lays156_ren:={
 mixed:=by kernel_rfl
 f156:=Tryz.func196.trans (congrArg some (by kernel_rfl))
 f165:=Tryz.func251.trans (congrArg some (by kernel_rfl))
 f166:=Tryz.func195.trans (congrArg some (by kernel_rfl))
 f169:=Tryz.func198.trans (congrArg some (by kernel_rfl))
 f240:=Tryz.func250.trans (congrArg some (by kernel_rfl))
 f241:=Tryz.func295.trans (congrArg some (by kernel_rfl))
 f276:=Tryz.func294.trans (congrArg some (by kernel_rfl))
 f277:=Tryz.func337.trans (congrArg some (by kernel_rfl))
 t0:=Tryz.underlying0
 a0:=Tryz.isAgg0
 z0:=Tryz.sizeOf0
 v0:=Tryz.zeroValue0
 t3:=Tryz.underlying3
 a3:=Tryz.isAgg3
 z3:=Tryz.sizeOf3
 v3:=Tryz.zeroValue3
 t4:=Tryz.underlying4
 a4:=Tryz.isAgg4
 z4:=Tryz.sizeOf4
 v4:=Tryz.zeroValue4
 t9:=Tryz.underlying9
 a9:=Tryz.isAgg9
 z9:=Tryz.sizeOf9
 v9:=Tryz.zeroValue9
 t20:=Tryz.underlying20
 a20:=Tryz.isAgg20
 z20:=Tryz.sizeOf20
 v20:=Tryz.zeroValue20
 t31:=Tryz.underlying28
 a31:=Tryz.isAgg28
 z31:=Tryz.sizeOf28
 v31:=Tryz.zeroValue28
 t37:=Tryz.underlying289
 a37:=Tryz.isAgg289
 z37:=Tryz.sizeOf289
 v37:=Tryz.zeroValue289
 t70:=Tryz.underlying301
 a70:=Tryz.isAgg301
 z70:=Tryz.sizeOf301
 v70:=Tryz.zeroValue301
 t72:=Tryz.underlying303
 a72:=Tryz.isAgg303
 z72:=Tryz.sizeOf303
 v72:=Tryz.zeroValue303
 t75:=Tryz.underlying305
 a75:=Tryz.isAgg305
 z75:=Tryz.sizeOf305
 v75:=Tryz.zeroValue305
 t76:=Tryz.underlying306
 a76:=Tryz.isAgg306
 z76:=Tryz.sizeOf306
 v76:=Tryz.zeroValue306
 t127:=Tryz.underlying349
 a127:=Tryz.isAgg349
 z127:=Tryz.sizeOf349
 v127:=Tryz.zeroValue349
 t164:=Tryz.underlying397
 a164:=Tryz.isAgg397
 z164:=Tryz.sizeOf397
 v164:=Tryz.zeroValue397}
theorem Tryz.Builder_Extra_156:Builder.Extra Tryz.prog Tryz.lays156_ren:={
 sizeBuilder:=by kernel_rfl
 liesBuilder:=by kernel_rfl
 t5:=Tryz.underlying5
 a5:=Tryz.isAgg5
 z5:=Tryz.sizeOf5
 v5:=Tryz.zeroValue5
 infoByte:=by kernel_rfl
 cellsByte:=by kernel_rfl
 sizeByte:=by kernel_rfl
 neB5:=by decide}
open Go.RowKit in
theorem Tryz.strings_Join_none (a:Option Addr) (c:Nat) (sep:ByteArray) (w:World):
 Calls Tryz.prog 196 #[.slice a 0 c,.string sep] w fun e w'=>e= .returned (.string ⟨#[]⟩)/\w'=w:=Any.strings_Join_none Tryz.lays156 Tryz.Builder_Extra_156 a c sep w
open Go.RowKit in
theorem Tryz.strings_Join (bk o c:Nat) (xs:List ByteArray) (sep:ByteArray) (w:World) (hcells: ∀(j:Nat) x,xs[j]? =some x->w.cell? ⟨bk,o+j,none⟩=some (.string x)) (hbk:bk<w.heap.size) (hN:xs.length<=140737488355328) (hcap:xs.length<=c) (hlen:(Lib.join (xs.map (·.data.toList)) sep.data.toList).length<=140737488355328):
 Calls Tryz.prog 196 #[.slice (some ⟨bk,o,none⟩) xs.length c,.string sep] w fun e w'=>e= .returned (.string ⟨(Lib.join (xs.map (·.data.toList)) sep.data.toList).toArray⟩)/\Below w.heap.size w w':=Any.strings_Join Tryz.lays156 Tryz.Builder_Extra_156 bk o c xs sep w hcells hbk hN hcap hlen
open Go.RowKit in
open Go.RowKit in
open Go.RowKit in
open Go.RowKit in
open Go.RowKit in
open Go.RowKit in
open Go.RowKit in
open Go.RowKit in
theorem Tryz.Builder_String_any_k (B b:Nat) (l:List UInt8) (w:World) (h:Lib.IsBuilderF 303 5 B b (Lib.byteCells l) w) (hBw:B<=w.heap.size):
 Calls Tryz.prog 198 #[.pointer (some ⟨b,0,none⟩)] w fun e w'=>e= .returned (.string ⟨l.toArray⟩)/\(Lib.IsBuilderF 303 5 B b (Lib.byteCells l) w'/\Below B w w'/\Lib.OthersKept 5 (some b) w w'):=Any.Builder_String_any_k Tryz.lays169 Tryz.Builder_Extra_169 B b l w h hBw
open Go.RowKit in
open Go.RowKit in
open Go.Lib in
open Go.Lib in
open Go.Lib in
open Go.Lib in
open Go.RowKit Go.Sort Go.Lib in
def Tryz.laysM246_ren:Go.Shelf.Ren:=⟨fun|246=>348|283=>385|284=>386|285=>387|286=>388|129=>361|317=>405|318=>406|319=>407|320=>408|337=>412|338=>413|n=>n,fun|2=>2|3=>3|9=>9|4=>4|171=>459|0=>0|53=>446|37=>289|5=>5|173=>461|212=>477|51=>444|20=>20|213=>478|46=>116|232=>482|233=>483|n=>n,fun|17=>1|18=>2|19=>3|n=>n⟩
open Go.RowKit Go.Sort Go.Lib in
open Go.RowKit Go.Sort Go.Lib in
def Tryz.laysM243_ren:Go.Shelf.Ren:=⟨fun|243=>311|246=>348|283=>385|284=>386|285=>387|286=>388|129=>361|317=>405|318=>406|319=>407|320=>408|337=>412|338=>413|n=>n,fun|3=>3|9=>9|2=>2|4=>4|171=>459|0=>0|53=>446|37=>289|5=>5|173=>461|212=>477|51=>444|20=>20|213=>478|46=>116|232=>482|233=>483|n=>n,fun|17=>1|18=>2|19=>3|n=>n⟩
open Go.RowKit Go.Sort Go.Lib in
open Go.RowKit Go.Sort Go.Lib in
def Tryz.laysM171_ren:Go.Shelf.Ren:=⟨fun|171=>265|243=>311|246=>348|283=>385|284=>386|285=>387|286=>388|129=>361|317=>405|318=>406|319=>407|320=>408|337=>412|338=>413|n=>n,fun|3=>3|9=>9|2=>2|4=>4|171=>459|0=>0|53=>446|37=>289|5=>5|173=>461|212=>477|51=>444|20=>20|213=>478|46=>116|232=>482|233=>483|n=>n,fun|17=>1|18=>2|19=>3|n=>n⟩
theorem Tryz.laysM171:Go.Proofs.LaysM.n171 Tryz.prog Tryz.laysM171_ren:={
 mixed:=by kernel_rfl
 f129:=Tryz.func361.trans (congrArg some (by kernel_rfl))
 f171:=Tryz.func265.trans (congrArg some (by kernel_rfl))
 f243:=Tryz.func311.trans (congrArg some (by kernel_rfl))
 f246:=Tryz.func348.trans (congrArg some (by kernel_rfl))
 f283:=Tryz.func385.trans (congrArg some (by kernel_rfl))
 f284:=Tryz.func386.trans (congrArg some (by kernel_rfl))
 f285:=Tryz.func387.trans (congrArg some (by kernel_rfl))
 f286:=Tryz.func388.trans (congrArg some (by kernel_rfl))
 f317:=Tryz.func405.trans (congrArg some (by kernel_rfl))
 f318:=Tryz.func406.trans (congrArg some (by kernel_rfl))
 f319:=Tryz.func407.trans (congrArg some (by kernel_rfl))
 f320:=Tryz.func408.trans (congrArg some (by kernel_rfl))
 f337:=Tryz.func412.trans (congrArg some (by kernel_rfl))
 f338:=Tryz.func413.trans (congrArg some (by kernel_rfl))
 t0:=Tryz.underlying0
 a0:=Tryz.isAgg0
 z0:=Tryz.sizeOf0
 v0:=Tryz.zeroValue0
 t2:=Tryz.underlying2
 a2:=Tryz.isAgg2
 z2:=Tryz.sizeOf2
 v2:=Tryz.zeroValue2
 t3:=Tryz.underlying3
 a3:=Tryz.isAgg3
 z3:=Tryz.sizeOf3
 v3:=Tryz.zeroValue3
 t4:=Tryz.underlying4
 a4:=Tryz.isAgg4
 z4:=Tryz.sizeOf4
 v4:=Tryz.zeroValue4
 t5:=Tryz.underlying5
 a5:=Tryz.isAgg5
 z5:=Tryz.sizeOf5
 v5:=Tryz.zeroValue5
 t9:=Tryz.underlying9
 a9:=Tryz.isAgg9
 z9:=Tryz.sizeOf9
 v9:=Tryz.zeroValue9
 t20:=Tryz.underlying20
 a20:=Tryz.isAgg20
 z20:=Tryz.sizeOf20
 v20:=Tryz.zeroValue20
 t37:=Tryz.underlying289
 a37:=Tryz.isAgg289
 z37:=Tryz.sizeOf289
 v37:=Tryz.zeroValue289
 t46:=Tryz.underlying116
 a46:=Tryz.isAgg116
 z46:=Tryz.sizeOf116
 v46:=Tryz.zeroValue116
 t51:=Tryz.underlying444
 a51:=Tryz.isAgg444
 z51:=Tryz.sizeOf444
 v51:=Tryz.zeroValue444
 t53:=Tryz.underlying446
 a53:=Tryz.isAgg446
 z53:=Tryz.sizeOf446
 v53:=Tryz.zeroValue446
 t171:=Tryz.underlying459
 a171:=Tryz.isAgg459
 z171:=Tryz.sizeOf459
 v171:=Tryz.zeroValue459
 t173:=Tryz.underlying461
 a173:=Tryz.isAgg461
 z173:=Tryz.sizeOf461
 v173:=Tryz.zeroValue461
 t212:=Tryz.underlying477
 a212:=Tryz.isAgg477
 z212:=Tryz.sizeOf477
 v212:=Tryz.zeroValue477
 t213:=Tryz.underlying478
 a213:=Tryz.isAgg478
 z213:=Tryz.sizeOf478
 t232:=Tryz.underlying482
 a232:=Tryz.isAgg482
 z232:=Tryz.sizeOf482
 v232:=Tryz.zeroValue482
 t233:=Tryz.underlying483
 a233:=Tryz.isAgg483
 z233:=Tryz.sizeOf483
 v233:=Tryz.zeroValue483
 g17:=by kernel_rfl
 g18:=by kernel_rfl
 g19:=by kernel_rfl
 i0:=by kernel_rfl
 i2:=by kernel_rfl
 i3:=by kernel_rfl
 i4:=by kernel_rfl
 i5:=by kernel_rfl
 i9:=by kernel_rfl
 i20:=by kernel_rfl
 i37:=by kernel_rfl
 i46:=by kernel_rfl
 i51:=by kernel_rfl
 i53:=by kernel_rfl
 i171:=by kernel_rfl
 i173:=by kernel_rfl
 i212:=by kernel_rfl
 i232:=by kernel_rfl
 i233:=by kernel_rfl
 m17:=by kernel_rfl
 m18:=by kernel_rfl
 m19:=by kernel_rfl}
open Go.RowKit Go.Sort Go.Lib in
theorem Tryz.strconv_Itoa (n : Int) (h0 : -9223372036854775808 ≤ n) (h1 : n ≤ 9223372036854775807) (w : World) (htab : Lib.TabIs Tryz.prog w "internal/strconv.uint64pow10" .u64 Lib.pow10Tab) :
    Calls Tryz.prog 265 #[.int .i64 n] w fun e w'=>e= .returned (.string ⟨(Lib.itoa n).toArray⟩)∧ ∃k os,w'=grow (w.drewN k) os:=Any.strconv_Itoa Tryz.laysM171 n h0 h1 w htab
open Go.RowKit Go.Sort Go.Lib in
open Go.RowKit Go.Lib in
open Go.RowKit Go.Lib in
open Go.RowKit Go.Lib in
def Tryz.laysSlE041_f318_ren:Go.Shelf.Ren:=⟨fun|41=>318|n=>n,fun|22=>28|23=>9|4=>4|n=>n,fun|n=>n⟩
theorem Tryz.laysSlE041_f318:Go.Proofs.SlLaysE0.n41 Tryz.prog Tryz.laysSlE041_f318_ren:={
 mixed:=by kernel_rfl
 f41:=⟨Tryz.f318.name,by decide,Tryz.func318.trans (congrArg some (by kernel_rfl))⟩
 t4:=Tryz.underlying4
 a4:=Tryz.isAgg4
 z4:=Tryz.sizeOf4
 v4:=Tryz.zeroValue4
 t22:=Tryz.underlying28
 a22:=Tryz.isAgg28
 z22:=Tryz.sizeOf28
 v22:=Tryz.zeroValue28}
open Go.RowKit Go.Lib in
theorem Tryz.slices_Clone (i0:TypeInfo) (z:Value) (size bytes:Nat) (hi:Tryz.prog.info? 9=some i0) (hz0:i0.zero=some z) (hz1:i0.size=size) (hz2:i0.bytes=bytes) (hzs:z.cells.size=size) (hsz:0<size) (z23: ∀w,(Go.sizeOf 9).run Tryz.prog w= .ok size w) (b off n c:Nat) (news:List Value) (w:World) (hl:news.length=n*size) (hn:n<=maxLen) (hbig:n*bytes<=140737488355328) (hc: ∀j u,news[j]? =some u->w.cell? ⟨b,off+j,none⟩=some u) (h1: ∀u∈news,u.oneCell'=true):
 Calls Tryz.prog 318 #[.slice (some ⟨b,off,none⟩) n c] w fun e w'=> ∃v',e= .returned v'/\w'.ownsRow w.heap.size 9 size v' n news/\v'≠ .slice none 0 0/\Below w.heap.size w w':=AnyE.slices_Clone Tryz.laysSlE041_f318 i0 z size bytes hi hz0 hz1 hz2 hzs hsz z23 b off n c news w hl hn hbig hc h1
open Go.RowKit Go.Lib in
theorem Tryz.slices_Clone_nil (n c:Nat) (w:World):
 Calls Tryz.prog 318 #[.slice none n c] w fun e w'=>e= .returned (.slice none 0 0)/\w'=w:=AnyE.slices_Clone_nil Tryz.laysSlE041_f318 n c w
end Go.Proofs
end
