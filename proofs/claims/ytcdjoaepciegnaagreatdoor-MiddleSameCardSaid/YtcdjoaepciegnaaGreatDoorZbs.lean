/- Part. -/
import Derived.Shelf.Strings.Builder1
import Derived.Shelf.Strings.Builder2
import Derived.Shelf.Strings.OnBuilder
import Derived.Shelf.Small.Bits
import Derived.Shelf.Small.Strs
import Derived.Shelf.Strings.BuilderF
import Derived.Shelf.Strings.BuilderK
import Derived.Shelf.Strings.Builder2Cap
import Derived.Shelf.Strconv.Itoa0
import Derived.Shelf.Strconv.Itoa1
import Derived.Shelf.LaysM
import Derived.Shelf.Strconv.Itoa2
import Derived.Shelf.Strconv.Itoa3
import Derived.Shelf.Strings.Search1
import Derived.Shelf.Strings.Search2
import Derived.Shelf.Strings.Cut
import Derived.Shelf.Strings.Shaped
import Derived.Shelf.Strings.BuilderCap
import Derived.Ground.Names2Prog
import Derived.Shelf.Slices.ReverseS
import Derived.Shelf.Slices.Clone
import Derived.Shelf.Slices.CompactI
import Derived.Shelf.Slices.CompactS
import Derived.Shelf.Slices.SearchI
import Derived.Shelf.Slices.Cells
import Derived.Ground.SlgnProg
import Derived.Shelf.SlicesE.Clone
import Derived.Test.YtcdjoaepciegnaaGreatDoorProg
set_option maxRecDepth 999999
set_option maxHeartbeats 0
set_option linter.all false
section
namespace Go.Proofs
open Go.Shelf
def Tryz.lays169_ren:Go.Shelf.Ren:=⟨fun|169=>202|n=>n,fun|70=>290|9=>9|0=>0|72=>292|37=>280|127=>352|3=>3|5=>5|n=>n,fun|n=>n⟩
theorem Tryz.lays169:Go.Proofs.Lays.n169 Tryz.prog Tryz.lays169_ren:={
 mixed:=by kernel_rfl
 f169:=Tryz.func202.trans (congrArg some (by kernel_rfl))
 t0:=Tryz.underlying0
 a0:=Tryz.isAgg0
 z0:=Tryz.sizeOf0
 v0:=Tryz.zeroValue0
 t3:=Tryz.underlying3
 a3:=Tryz.isAgg3
 z3:=Tryz.sizeOf3
 v3:=Tryz.zeroValue3
 t9:=Tryz.underlying9
 a9:=Tryz.isAgg9
 z9:=Tryz.sizeOf9
 v9:=Tryz.zeroValue9
 t37:=Tryz.underlying280
 a37:=Tryz.isAgg280
 z37:=Tryz.sizeOf280
 v37:=Tryz.zeroValue280
 t70:=Tryz.underlying290
 a70:=Tryz.isAgg290
 z70:=Tryz.sizeOf290
 v70:=Tryz.zeroValue290
 t72:=Tryz.underlying292
 a72:=Tryz.isAgg292
 z72:=Tryz.sizeOf292
 v72:=Tryz.zeroValue292
 t127:=Tryz.underlying352
 a127:=Tryz.isAgg352
 z127:=Tryz.sizeOf352
 v127:=Tryz.zeroValue352}
theorem Tryz.Builder_Extra_169:Builder.Extra Tryz.prog Tryz.lays169_ren:={
 sizeBuilder:=by kernel_rfl
 liesBuilder:=by kernel_rfl
 t5:=Tryz.underlying5
 a5:=Tryz.isAgg5
 z5:=Tryz.sizeOf5
 v5:=Tryz.zeroValue5
 infoByte:=by kernel_rfl
 cellsByte:=by kernel_rfl
 sizeByte:=by kernel_rfl
 neB5:=by decide}
open Go.RowKit in
open Go.RowKit in
open Go.RowKit in
open Go.RowKit in
open Go.RowKit in
def Tryz.lays156_ren:Go.Shelf.Ren:=⟨fun|156=>200|165=>265|166=>199|169=>202|240=>264|241=>309|276=>308|277=>379|n=>n,fun|31=>41|9=>9|3=>3|4=>4|0=>0|20=>20|72=>292|76=>295|70=>290|37=>280|75=>294|127=>352|164=>383|5=>5|80=>299|n=>n,fun|n=>n⟩
theorem Tryz.lays156:Go.Proofs.Lays.n156 Tryz.prog Tryz.lays156_ren:={
 mixed:=by kernel_rfl
 f156:=Tryz.func200.trans (congrArg some (by kernel_rfl))
 f165:=Tryz.func265.trans (congrArg some (by kernel_rfl))
 f166:=Tryz.func199.trans (congrArg some (by kernel_rfl))
 f169:=Tryz.func202.trans (congrArg some (by kernel_rfl))
 f240:=Tryz.func264.trans (congrArg some (by kernel_rfl))
 f241:=Tryz.func309.trans (congrArg some (by kernel_rfl))
 f276:=Tryz.func308.trans (congrArg some (by kernel_rfl))
 f277:=Tryz.func379.trans (congrArg some (by kernel_rfl))
 t0:=Tryz.underlying0
 a0:=Tryz.isAgg0
 z0:=Tryz.sizeOf0
 v0:=Tryz.zeroValue0
 t3:=Tryz.underlying3
 a3:=Tryz.isAgg3
 z3:=Tryz.sizeOf3
 v3:=Tryz.zeroValue3
 t4:=Tryz.underlying4
 a4:=Tryz.isAgg4
 z4:=Tryz.sizeOf4
 v4:=Tryz.zeroValue4
 t9:=Tryz.underlying9
 a9:=Tryz.isAgg9
 z9:=Tryz.sizeOf9
 v9:=Tryz.zeroValue9
 t20:=Tryz.underlying20
 a20:=Tryz.isAgg20
 z20:=Tryz.sizeOf20
 v20:=Tryz.zeroValue20
 t31:=Tryz.underlying41
 a31:=Tryz.isAgg41
 z31:=Tryz.sizeOf41
 v31:=Tryz.zeroValue41
 t37:=Tryz.underlying280
 a37:=Tryz.isAgg280
 z37:=Tryz.sizeOf280
 v37:=Tryz.zeroValue280
 t70:=Tryz.underlying290
 a70:=Tryz.isAgg290
 z70:=Tryz.sizeOf290
 v70:=Tryz.zeroValue290
 t72:=Tryz.underlying292
 a72:=Tryz.isAgg292
 z72:=Tryz.sizeOf292
 v72:=Tryz.zeroValue292
 t75:=Tryz.underlying294
 a75:=Tryz.isAgg294
 z75:=Tryz.sizeOf294
 v75:=Tryz.zeroValue294
 t76:=Tryz.underlying295
 a76:=Tryz.isAgg295
 z76:=Tryz.sizeOf295
 v76:=Tryz.zeroValue295
 t127:=Tryz.underlying352
 a127:=Tryz.isAgg352
 z127:=Tryz.sizeOf352
 v127:=Tryz.zeroValue352
 t164:=Tryz.underlying383
 a164:=Tryz.isAgg383
 z164:=Tryz.sizeOf383
 v164:=Tryz.zeroValue383}
theorem Tryz.Builder_Extra_156:Builder.Extra Tryz.prog Tryz.lays156_ren:={
 sizeBuilder:=by kernel_rfl
 liesBuilder:=by kernel_rfl
 t5:=Tryz.underlying5
 a5:=Tryz.isAgg5
 z5:=Tryz.sizeOf5
 v5:=Tryz.zeroValue5
 infoByte:=by kernel_rfl
 cellsByte:=by kernel_rfl
 sizeByte:=by kernel_rfl
 neB5:=by decide}
open Go.RowKit in
theorem Tryz.strings_Join_none (a:Option Addr) (c:Nat) (sep:ByteArray) (w:World):
 Calls Tryz.prog 200 #[.slice a 0 c,.string sep] w fun e w'=>e= .returned (.string ⟨#[]⟩)/\w'=w:=Any.strings_Join_none Tryz.lays156 Tryz.Builder_Extra_156 a c sep w
open Go.RowKit in
theorem Tryz.strings_Join (bk o c:Nat) (xs:List ByteArray) (sep:ByteArray) (w:World) (hcells: ∀(j:Nat) x,xs[j]? =some x->w.cell? ⟨bk,o+j,none⟩=some (.string x)) (hbk:bk<w.heap.size) (hN:xs.length<=140737488355328) (hcap:xs.length<=c) (hlen:(Lib.join (xs.map (·.data.toList)) sep.data.toList).length<=140737488355328):
 Calls Tryz.prog 200 #[.slice (some ⟨bk,o,none⟩) xs.length c,.string sep] w fun e w'=>e= .returned (.string ⟨(Lib.join (xs.map (·.data.toList)) sep.data.toList).toArray⟩)/\Below w.heap.size w w':=Any.strings_Join Tryz.lays156 Tryz.Builder_Extra_156 bk o c xs sep w hcells hbk hN hcap hlen
def Tryz.lays213_ren:Go.Shelf.Ren:=⟨fun|213=>291|265=>356|n=>n,fun|9=>9|3=>3|n=>n,fun|n=>n⟩
theorem Tryz.lays213:Go.Proofs.Lays.n213 Tryz.prog Tryz.lays213_ren:={
 mixed:=by kernel_rfl
 f213:=Tryz.func291.trans (congrArg some (by kernel_rfl))
 f265:=Tryz.func356.trans (congrArg some (by kernel_rfl))
 t3:=Tryz.underlying3
 a3:=Tryz.isAgg3
 z3:=Tryz.sizeOf3
 v3:=Tryz.zeroValue3
 t9:=Tryz.underlying9
 a9:=Tryz.isAgg9
 z9:=Tryz.sizeOf9
 v9:=Tryz.zeroValue9}
open Go.RowKit in
theorem Tryz.bytealg_CompareString (a b:ByteArray) (w:World):
 Calls Tryz.prog 291 #[.string a,.string b] w fun e w'=>e= .returned (.int .i64 (Lib.compareBytes a.data.toList b.data.toList))/\w'=w:=Any.bytealg_CompareString Tryz.lays213 a b w
open Go.RowKit in
open Go.RowKit in
open Go.RowKit in
open Go.RowKit in
open Go.RowKit in
open Go.RowKit in
open Go.RowKit in
theorem Tryz.Builder_String_any_k (B b:Nat) (l:List UInt8) (w:World) (h:Lib.IsBuilderF 292 5 B b (Lib.byteCells l) w) (hBw:B<=w.heap.size):
 Calls Tryz.prog 202 #[.pointer (some ⟨b,0,none⟩)] w fun e w'=>e= .returned (.string ⟨l.toArray⟩)/\(Lib.IsBuilderF 292 5 B b (Lib.byteCells l) w'/\Below B w w'/\Lib.OthersKept 5 (some b) w w'):=Any.Builder_String_any_k Tryz.lays169 Tryz.Builder_Extra_169 B b l w h hBw
open Go.RowKit in
open Go.RowKit in
open Go.Lib in
open Go.Lib in
open Go.Lib in
open Go.Lib in
open Go.RowKit Go.Sort Go.Lib in
def Tryz.laysM246_ren:Go.Shelf.Ren:=⟨fun|246=>373|283=>440|284=>441|285=>442|286=>443|129=>242|317=>493|318=>494|319=>495|320=>496|337=>532|338=>533|n=>n,fun|2=>2|3=>3|9=>9|4=>4|171=>496|0=>0|53=>334|37=>280|5=>5|173=>498|212=>542|51=>332|20=>20|213=>543|46=>262|232=>584|233=>585|n=>n,fun|17=>1|18=>2|19=>3|n=>n⟩
open Go.RowKit Go.Sort Go.Lib in
open Go.RowKit Go.Sort Go.Lib in
def Tryz.laysM243_ren:Go.Shelf.Ren:=⟨fun|243=>306|246=>373|283=>440|284=>441|285=>442|286=>443|129=>242|317=>493|318=>494|319=>495|320=>496|337=>532|338=>533|n=>n,fun|3=>3|9=>9|2=>2|4=>4|171=>496|0=>0|53=>334|37=>280|5=>5|173=>498|212=>542|51=>332|20=>20|213=>543|46=>262|232=>584|233=>585|n=>n,fun|17=>1|18=>2|19=>3|n=>n⟩
open Go.RowKit Go.Sort Go.Lib in
open Go.RowKit Go.Sort Go.Lib in
def Tryz.laysM171_ren:Go.Shelf.Ren:=⟨fun|171=>259|243=>306|246=>373|283=>440|284=>441|285=>442|286=>443|129=>242|317=>493|318=>494|319=>495|320=>496|337=>532|338=>533|n=>n,fun|3=>3|9=>9|2=>2|4=>4|171=>496|0=>0|53=>334|37=>280|5=>5|173=>498|212=>542|51=>332|20=>20|213=>543|46=>262|232=>584|233=>585|n=>n,fun|17=>1|18=>2|19=>3|n=>n⟩
theorem Tryz.laysM171:Go.Proofs.LaysM.n171 Tryz.prog Tryz.laysM171_ren:={
 mixed:=by kernel_rfl
 f129:=Tryz.func242.trans (congrArg some (by kernel_rfl))
 f171:=Tryz.func259.trans (congrArg some (by kernel_rfl))
 f243:=Tryz.func306.trans (congrArg some (by kernel_rfl))
 f246:=Tryz.func373.trans (congrArg some (by kernel_rfl))
 f283:=Tryz.func440.trans (congrArg some (by kernel_rfl))
 f284:=Tryz.func441.trans (congrArg some (by kernel_rfl))
 f285:=Tryz.func442.trans (congrArg some (by kernel_rfl))
 f286:=Tryz.func443.trans (congrArg some (by kernel_rfl))
 f317:=Tryz.func493.trans (congrArg some (by kernel_rfl))
 f318:=Tryz.func494.trans (congrArg some (by kernel_rfl))
 f319:=Tryz.func495.trans (congrArg some (by kernel_rfl))
 f320:=Tryz.func496.trans (congrArg some (by kernel_rfl))
 f337:=Tryz.func532.trans (congrArg some (by kernel_rfl))
 f338:=Tryz.func533.trans (congrArg some (by kernel_rfl))
 t0:=Tryz.underlying0
 a0:=Tryz.isAgg0
 z0:=Tryz.sizeOf0
 v0:=Tryz.zeroValue0
 t2:=Tryz.underlying2
 a2:=Tryz.isAgg2
 z2:=Tryz.sizeOf2
 v2:=Tryz.zeroValue2
 t3:=Tryz.underlying3
 a3:=Tryz.isAgg3
 z3:=Tryz.sizeOf3
 v3:=Tryz.zeroValue3
 t4:=Tryz.underlying4
 a4:=Tryz.isAgg4
 z4:=Tryz.sizeOf4
 v4:=Tryz.zeroValue4
 t5:=Tryz.underlying5
 a5:=Tryz.isAgg5
 z5:=Tryz.sizeOf5
 v5:=Tryz.zeroValue5
 t9:=Tryz.underlying9
 a9:=Tryz.isAgg9
 z9:=Tryz.sizeOf9
 v9:=Tryz.zeroValue9
 t20:=Tryz.underlying20
 a20:=Tryz.isAgg20
 z20:=Tryz.sizeOf20
 v20:=Tryz.zeroValue20
 t37:=Tryz.underlying280
 a37:=Tryz.isAgg280
 z37:=Tryz.sizeOf280
 v37:=Tryz.zeroValue280
 t46:=Tryz.underlying262
 a46:=Tryz.isAgg262
 z46:=Tryz.sizeOf262
 v46:=Tryz.zeroValue262
 t51:=Tryz.underlying332
 a51:=Tryz.isAgg332
 z51:=Tryz.sizeOf332
 v51:=Tryz.zeroValue332
 t53:=Tryz.underlying334
 a53:=Tryz.isAgg334
 z53:=Tryz.sizeOf334
 v53:=Tryz.zeroValue334
 t171:=Tryz.underlying496
 a171:=Tryz.isAgg496
 z171:=Tryz.sizeOf496
 v171:=Tryz.zeroValue496
 t173:=Tryz.underlying498
 a173:=Tryz.isAgg498
 z173:=Tryz.sizeOf498
 v173:=Tryz.zeroValue498
 t212:=Tryz.underlying542
 a212:=Tryz.isAgg542
 z212:=Tryz.sizeOf542
 v212:=Tryz.zeroValue542
 t213:=Tryz.underlying543
 a213:=Tryz.isAgg543
 z213:=Tryz.sizeOf543
 t232:=Tryz.underlying584
 a232:=Tryz.isAgg584
 z232:=Tryz.sizeOf584
 v232:=Tryz.zeroValue584
 t233:=Tryz.underlying585
 a233:=Tryz.isAgg585
 z233:=Tryz.sizeOf585
 v233:=Tryz.zeroValue585
 g17:=by kernel_rfl
 g18:=by kernel_rfl
 g19:=by kernel_rfl
 i0:=by kernel_rfl
 i2:=by kernel_rfl
 i3:=by kernel_rfl
 i4:=by kernel_rfl
 i5:=by kernel_rfl
 i9:=by kernel_rfl
 i20:=by kernel_rfl
 i37:=by kernel_rfl
 i46:=by kernel_rfl
 i51:=by kernel_rfl
 i53:=by kernel_rfl
 i171:=by kernel_rfl
 i173:=by kernel_rfl
 i212:=by kernel_rfl
 i232:=by kernel_rfl
 i233:=by kernel_rfl
 m17:=by kernel_rfl
 m18:=by kernel_rfl
 m19:=by kernel_rfl}
open Go.RowKit Go.Sort Go.Lib in
theorem Tryz.strconv_Itoa (n : Int) (h0 : -9223372036854775808 ≤ n) (h1 : n ≤ 9223372036854775807) (w : World) (htab : Lib.TabIs Tryz.prog w "internal/strconv.uint64pow10" .u64 Lib.pow10Tab) :
    Calls Tryz.prog 259 #[.int .i64 n] w fun e w'=>e= .returned (.string ⟨(Lib.itoa n).toArray⟩)∧ ∃k os,w'=grow (w.drewN k) os:=Any.strconv_Itoa Tryz.laysM171 n h0 h1 w htab
open Go.RowKit Go.Sort Go.Lib in
open Go.RowKit Go.Lib in
open Go.RowKit Go.Lib in
open Go.RowKit Go.Lib in
open Go.RowKit Go.Lib in
def Tryz.lays219_ren:Go.Shelf.Ren:=⟨fun|219=>507|217=>542|225=>543|224=>544|267=>545|266=>557|314=>558|n=>n,fun|9=>9|3=>3|4=>4|5=>5|46=>262|146=>586|51=>332|n=>n,fun|1=>0|n=>n⟩
open Go.RowKit Go.Lib in
open Go.RowKit Go.Lib in
open Go.RowKit Go.Lib in
open Go.RowKit Go.Lib in
def Tryz.laysM219_ren:Go.Shelf.Ren:=⟨fun|219=>507|217=>542|225=>543|224=>544|267=>545|266=>557|314=>558|n=>n,fun|9=>9|3=>3|4=>4|5=>5|46=>262|146=>586|51=>332|n=>n,fun|1=>0|n=>n⟩
theorem Tryz.laysM219:Go.Proofs.LaysM.n219 Tryz.prog Tryz.laysM219_ren:={
 mixed:=by kernel_rfl
 f217:=Tryz.func542.trans (congrArg some (by kernel_rfl))
 f219:=Tryz.func507.trans (congrArg some (by kernel_rfl))
 f224:=Tryz.func544.trans (congrArg some (by kernel_rfl))
 f225:=Tryz.func543.trans (congrArg some (by kernel_rfl))
 f266:=Tryz.func557.trans (congrArg some (by kernel_rfl))
 f267:=Tryz.func545.trans (congrArg some (by kernel_rfl))
 f314:=Tryz.func558.trans (congrArg some (by kernel_rfl))
 t3:=Tryz.underlying3
 a3:=Tryz.isAgg3
 z3:=Tryz.sizeOf3
 v3:=Tryz.zeroValue3
 t4:=Tryz.underlying4
 a4:=Tryz.isAgg4
 z4:=Tryz.sizeOf4
 v4:=Tryz.zeroValue4
 t5:=Tryz.underlying5
 a5:=Tryz.isAgg5
 z5:=Tryz.sizeOf5
 v5:=Tryz.zeroValue5
 t9:=Tryz.underlying9
 a9:=Tryz.isAgg9
 z9:=Tryz.sizeOf9
 v9:=Tryz.zeroValue9
 t46:=Tryz.underlying262
 a46:=Tryz.isAgg262
 z46:=Tryz.sizeOf262
 v46:=Tryz.zeroValue262
 t51:=Tryz.underlying332
 a51:=Tryz.isAgg332
 z51:=Tryz.sizeOf332
 v51:=Tryz.zeroValue332
 t146:=Tryz.underlying586
 a146:=Tryz.isAgg586
 z146:=Tryz.sizeOf586
 v146:=Tryz.zeroValue586
 g1:=by kernel_rfl
 i3:=by kernel_rfl
 i4:=by kernel_rfl
 i5:=by kernel_rfl
 i9:=by kernel_rfl
 i46:=by kernel_rfl
 i51:=by kernel_rfl
 i146:=by kernel_rfl
 m1:=by kernel_rfl
 s1_3:=fun w h=>Go.Proofs.cell_of_shapedOpen_int (zero:= #[.int .i64 0]) (t:=3) h (of_decide_eq_true (by kernel_rfl)) (by kernel_rfl) rfl (by kernel_rfl) (by kernel_rfl) Tryz.underlying3}
end Go.Proofs
end
