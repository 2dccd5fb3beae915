/- No condition. -/
import Derived.Shelf.Strings.Builder1
import Derived.Shelf.Strings.Builder2
import Derived.Shelf.Strings.OnBuilder
import Derived.Shelf.Utf8.RuneCount
import Derived.Shelf.Strconv.Itoa0
import Derived.Shelf.Strconv.Itoa1
import Derived.Shelf.LaysM
import Derived.Shelf.Strconv.Itoa2
import Derived.Shelf.Strconv.Itoa3
import Derived.Shelf.Strings.Search1
import Derived.Shelf.Strings.Search2
import Derived.Shelf.Strings.Search3
import Derived.Shelf.Strings.Cut
import Derived.Shelf.Strings.Count
import Derived.Shelf.Strings.Shaped
import Derived.Shelf.Strings.Split
import Derived.Shelf.Strings.SplitShaped
import Derived.Shelf.Unicode.Decode
import Derived.Shelf.Strings.RuneCount
import Derived.Shelf.Strings.Explode
import Derived.Shelf.Unicode.DecodeSlow
import Derived.Shelf.Unicode.DecodeAny
import Derived.Shelf.Slices.Turned
import Derived.Shelf.Slices.Reverse
import Derived.Shelf.Slices.Equal
import Derived.Ground.Names2Prog
import Derived.Shelf.Slices.SearchI
import Derived.Shelf.Slices.Cells
import Derived.Test.YtnllfndlcahalaaGreatDoorProg
set_option linter.all false
namespace Go.Proofs
open Go.Shelf
def Tryz.ajn:Go.Shelf.Ren:=⟨fun|156=>181|165=>241|166=>242|169=>243|240=>289|241=>290|276=>327|277=>328|n=>n,fun|31=>206|9=>9|3=>3|4=>4|0=>0|20=>20|72=>245|76=>249|70=>243|37=>22|75=>248|127=>270|164=>284|5=>5|80=>165|n=>n,fun|n=>n⟩
theorem Tryz.aDe:Go.Proofs.Lays.n156 Tryz.prog Tryz.ajn:={
 mixed:=by kernel_rfl
 f156:=Tryz.func181.trans (congrArg some (by kernel_rfl))
 f165:=Tryz.func241.trans (congrArg some (by kernel_rfl))
 f166:=Tryz.func242.trans (congrArg some (by kernel_rfl))
 f169:=Tryz.func243.trans (congrArg some (by kernel_rfl))
 f240:=Tryz.func289.trans (congrArg some (by kernel_rfl))
 f241:=Tryz.func290.trans (congrArg some (by kernel_rfl))
 f276:=Tryz.func327.trans (congrArg some (by kernel_rfl))
 f277:=Tryz.func328.trans (congrArg some (by kernel_rfl))
 t0:=Tryz.underlying0
 a0:=Tryz.isAgg0
 z0:=Tryz.sizeOf0
 v0:=Tryz.zeroValue0
 t3:=Tryz.underlying3
 a3:=Tryz.isAgg3
 z3:=Tryz.sizeOf3
 v3:=Tryz.zeroValue3
 t4:=Tryz.underlying4
 a4:=Tryz.isAgg4
 z4:=Tryz.sizeOf4
 v4:=Tryz.zeroValue4
 t9:=Tryz.underlying9
 a9:=Tryz.isAgg9
 z9:=Tryz.sizeOf9
 v9:=Tryz.zeroValue9
 t20:=Tryz.underlying20
 a20:=Tryz.isAgg20
 z20:=Tryz.sizeOf20
 v20:=Tryz.zeroValue20
 t31:=Tryz.underlying206
 a31:=Tryz.isAgg206
 z31:=Tryz.sizeOf206
 v31:=Tryz.zeroValue206
 t37:=Tryz.underlying22
 a37:=Tryz.isAgg22
 z37:=Tryz.sizeOf22
 v37:=Tryz.zeroValue22
 t70:=Tryz.underlying243
 a70:=Tryz.isAgg243
 z70:=Tryz.sizeOf243
 v70:=Tryz.zeroValue243
 t72:=Tryz.underlying245
 a72:=Tryz.isAgg245
 z72:=Tryz.sizeOf245
 v72:=Tryz.zeroValue245
 t75:=Tryz.underlying248
 a75:=Tryz.isAgg248
 z75:=Tryz.sizeOf248
 v75:=Tryz.zeroValue248
 t76:=Tryz.underlying249
 a76:=Tryz.isAgg249
 z76:=Tryz.sizeOf249
 v76:=Tryz.zeroValue249
 t127:=Tryz.underlying270
 a127:=Tryz.isAgg270
 z127:=Tryz.sizeOf270
 v127:=Tryz.zeroValue270
 t164:=Tryz.underlying284
 a164:=Tryz.isAgg284
 z164:=Tryz.sizeOf284
 v164:=Tryz.zeroValue284}
theorem Tryz.Mr:Builder.Extra Tryz.prog Tryz.ajn:={
 sizeBuilder:=by kernel_rfl
 liesBuilder:=by kernel_rfl
 t5:=Tryz.underlying5
 a5:=Tryz.isAgg5
 z5:=Tryz.sizeOf5
 v5:=Tryz.zeroValue5
 infoByte:=by kernel_rfl
 cellsByte:=by kernel_rfl
 sizeByte:=by kernel_rfl
 neB5:=by decide}
open Go.RowKit in
theorem Tryz.strings_Join_none (a:Option Addr)(c:Nat)(sep:ByteArray)(w:World) :
  Calls Tryz.prog 181 #[.slice a 0 c,.string sep] w fun e w'=>e=.returned (.string ⟨#[]⟩)/\w'=w:=Any.strings_Join_none Tryz.aDe Tryz.Mr a c sep w
open Go.RowKit in
theorem Tryz.strings_Join (bk o c:Nat)(xs:List ByteArray)(sep:ByteArray)(w:World)(hcells:∀(j:Nat) x,xs[j]?=some x->w.cell? ⟨bk,o+j,none⟩=some (.string x))(hbk:bk<w.heap.size)(hN:xs.length<=140737488355328)(hcap:xs.length<=c)(hlen:(Lib.join (xs.map (·.data.toList)) sep.data.toList).length<=140737488355328) :
  Calls Tryz.prog 181 #[.slice (some ⟨bk,o,none⟩) xs.length c,.string sep] w fun e w'=>e=.returned (.string ⟨(Lib.join (xs.map (·.data.toList)) sep.data.toList).toArray⟩)/\Below w.heap.size w w':=Any.strings_Join Tryz.aDe Tryz.Mr bk o c xs sep w hcells hbk hN hcap hlen
def Tryz.aIE:Go.Shelf.Ren:=⟨fun|246=>288|283=>323|284=>324|285=>325|286=>326|129=>355|317=>354|318=>356|319=>357|320=>358|337=>373|338=>374|n=>n,fun|2=>2|3=>3|9=>9|4=>4|171=>278|0=>0|53=>279|37=>22|5=>5|173=>282|212=>292|51=>293|20=>20|213=>294|46=>176|232=>303|233=>304|n=>n,fun|17=>1|18=>2|19=>3|n=>n⟩
def Tryz.aIF:Go.Shelf.Ren:=⟨fun|243=>240|246=>288|283=>323|284=>324|285=>325|286=>326|129=>355|317=>354|318=>356|319=>357|320=>358|337=>373|338=>374|n=>n,fun|3=>3|9=>9|2=>2|4=>4|171=>278|0=>0|53=>279|37=>22|5=>5|173=>282|212=>292|51=>293|20=>20|213=>294|46=>176|232=>303|233=>304|n=>n,fun|17=>1|18=>2|19=>3|n=>n⟩
def Tryz.avE:Go.Shelf.Ren:=⟨fun|171=>179|243=>240|246=>288|283=>323|284=>324|285=>325|286=>326|129=>355|317=>354|318=>356|319=>357|320=>358|337=>373|338=>374|n=>n,fun|3=>3|9=>9|2=>2|4=>4|171=>278|0=>0|53=>279|37=>22|5=>5|173=>282|212=>292|51=>293|20=>20|213=>294|46=>176|232=>303|233=>304|n=>n,fun|17=>1|18=>2|19=>3|n=>n⟩
theorem Tryz.aGE:Go.Proofs.LaysM.n171 Tryz.prog Tryz.avE:={
 mixed:=by kernel_rfl
 f129:=Tryz.func355.trans (congrArg some (by kernel_rfl))
 f171:=Tryz.func179.trans (congrArg some (by kernel_rfl))
 f243:=Tryz.func240.trans (congrArg some (by kernel_rfl))
 f246:=Tryz.func288.trans (congrArg some (by kernel_rfl))
 f283:=Tryz.func323.trans (congrArg some (by kernel_rfl))
 f284:=Tryz.func324.trans (congrArg some (by kernel_rfl))
 f285:=Tryz.func325.trans (congrArg some (by kernel_rfl))
 f286:=Tryz.func326.trans (congrArg some (by kernel_rfl))
 f317:=Tryz.func354.trans (congrArg some (by kernel_rfl))
 f318:=Tryz.func356.trans (congrArg some (by kernel_rfl))
 f319:=Tryz.func357.trans (congrArg some (by kernel_rfl))
 f320:=Tryz.func358.trans (congrArg some (by kernel_rfl))
 f337:=Tryz.func373.trans (congrArg some (by kernel_rfl))
 f338:=Tryz.func374.trans (congrArg some (by kernel_rfl))
 t0:=Tryz.underlying0
 a0:=Tryz.isAgg0
 z0:=Tryz.sizeOf0
 v0:=Tryz.zeroValue0
 t2:=Tryz.underlying2
 a2:=Tryz.isAgg2
 z2:=Tryz.sizeOf2
 v2:=Tryz.zeroValue2
 t3:=Tryz.underlying3
 a3:=Tryz.isAgg3
 z3:=Tryz.sizeOf3
 v3:=Tryz.zeroValue3
 t4:=Tryz.underlying4
 a4:=Tryz.isAgg4
 z4:=Tryz.sizeOf4
 v4:=Tryz.zeroValue4
 t5:=Tryz.underlying5
 a5:=Tryz.isAgg5
 z5:=Tryz.sizeOf5
 v5:=Tryz.zeroValue5
 t9:=Tryz.underlying9
 a9:=Tryz.isAgg9
 z9:=Tryz.sizeOf9
 v9:=Tryz.zeroValue9
 t20:=Tryz.underlying20
 a20:=Tryz.isAgg20
 z20:=Tryz.sizeOf20
 v20:=Tryz.zeroValue20
 t37:=Tryz.underlying22
 a37:=Tryz.isAgg22
 z37:=Tryz.sizeOf22
 v37:=Tryz.zeroValue22
 t46:=Tryz.underlying176
 a46:=Tryz.isAgg176
 z46:=Tryz.sizeOf176
 v46:=Tryz.zeroValue176
 t51:=Tryz.underlying293
 a51:=Tryz.isAgg293
 z51:=Tryz.sizeOf293
 v51:=Tryz.zeroValue293
 t53:=Tryz.underlying279
 a53:=Tryz.isAgg279
 z53:=Tryz.sizeOf279
 v53:=Tryz.zeroValue279
 t171:=Tryz.underlying278
 a171:=Tryz.isAgg278
 z171:=Tryz.sizeOf278
 v171:=Tryz.zeroValue278
 t173:=Tryz.underlying282
 a173:=Tryz.isAgg282
 z173:=Tryz.sizeOf282
 v173:=Tryz.zeroValue282
 t212:=Tryz.underlying292
 a212:=Tryz.isAgg292
 z212:=Tryz.sizeOf292
 v212:=Tryz.zeroValue292
 t213:=Tryz.underlying294
 a213:=Tryz.isAgg294
 z213:=Tryz.sizeOf294
 t232:=Tryz.underlying303
 a232:=Tryz.isAgg303
 z232:=Tryz.sizeOf303
 v232:=Tryz.zeroValue303
 t233:=Tryz.underlying304
 a233:=Tryz.isAgg304
 z233:=Tryz.sizeOf304
 v233:=Tryz.zeroValue304
 g17:=by kernel_rfl
 g18:=by kernel_rfl
 g19:=by kernel_rfl
 i0:=by kernel_rfl
 i2:=by kernel_rfl
 i3:=by kernel_rfl
 i4:=by kernel_rfl
 i5:=by kernel_rfl
 i9:=by kernel_rfl
 i20:=by kernel_rfl
 i37:=by kernel_rfl
 i46:=by kernel_rfl
 i51:=by kernel_rfl
 i53:=by kernel_rfl
 i171:=by kernel_rfl
 i173:=by kernel_rfl
 i212:=by kernel_rfl
 i232:=by kernel_rfl
 i233:=by kernel_rfl
 m17:=by kernel_rfl
 m18:=by kernel_rfl
 m19:=by kernel_rfl}
open Go.RowKit Go.Sort Go.Lib in
theorem Tryz.strconv_Itoa (n : Int) (h0 : -9223372036854775808 ≤ n) (h1 : n ≤ 9223372036854775807) (w : World) (htab : Lib.TabIs Tryz.prog w "internal/strconv.uint64pow10" .u64 Lib.pow10Tab) :
  Calls Tryz.prog 179 #[.int .i64 n] w fun e w'=>e=.returned (.string ⟨(Lib.itoa n).toArray⟩)/\∃k os,w'=grow (w.drewN k) os:=Any.strconv_Itoa Tryz.aGE n h0 h1 w htab
def Tryz.aJQ:Go.Shelf.Ren:=⟨fun|219=>292|217=>332|225=>333|224=>334|267=>335|266=>362|314=>363|n=>n,fun|9=>9|3=>3|4=>4|5=>5|46=>176|146=>298|51=>293|n=>n,fun|1=>0|n=>n⟩
def Tryz.ayf:Go.Shelf.Ren:=⟨fun|145=>185|220=>246|219=>292|217=>332|225=>333|224=>334|267=>335|266=>362|314=>363|n=>n,fun|9=>9|4=>4|59=>211|3=>3|5=>5|46=>176|146=>298|51=>293|n=>n,fun|1=>0|n=>n⟩
theorem Tryz.aIG:Go.Proofs.Lays.n145 Tryz.prog Tryz.ayf:={
 mixed:=by kernel_rfl
 f145:=Tryz.func185.trans (congrArg some (by kernel_rfl))
 f217:=Tryz.func332.trans (congrArg some (by kernel_rfl))
 f219:=Tryz.func292.trans (congrArg some (by kernel_rfl))
 f220:=Tryz.func246.trans (congrArg some (by kernel_rfl))
 f224:=Tryz.func334.trans (congrArg some (by kernel_rfl))
 f225:=Tryz.func333.trans (congrArg some (by kernel_rfl))
 f266:=Tryz.func362.trans (congrArg some (by kernel_rfl))
 f267:=Tryz.func335.trans (congrArg some (by kernel_rfl))
 f314:=Tryz.func363.trans (congrArg some (by kernel_rfl))
 t3:=Tryz.underlying3
 a3:=Tryz.isAgg3
 z3:=Tryz.sizeOf3
 v3:=Tryz.zeroValue3
 t4:=Tryz.underlying4
 a4:=Tryz.isAgg4
 z4:=Tryz.sizeOf4
 v4:=Tryz.zeroValue4
 t5:=Tryz.underlying5
 a5:=Tryz.isAgg5
 z5:=Tryz.sizeOf5
 v5:=Tryz.zeroValue5
 t9:=Tryz.underlying9
 a9:=Tryz.isAgg9
 z9:=Tryz.sizeOf9
 v9:=Tryz.zeroValue9
 t46:=Tryz.underlying176
 a46:=Tryz.isAgg176
 z46:=Tryz.sizeOf176
 v46:=Tryz.zeroValue176
 t51:=Tryz.underlying293
 a51:=Tryz.isAgg293
 z51:=Tryz.sizeOf293
 v51:=Tryz.zeroValue293
 t59:=Tryz.underlying211
 a59:=Tryz.isAgg211
 z59:=Tryz.sizeOf211
 v59:=Tryz.zeroValue211
 t146:=Tryz.underlying298
 a146:=Tryz.isAgg298
 z146:=Tryz.sizeOf298
 v146:=Tryz.zeroValue298
 g1:=by kernel_rfl}
open Go.RowKit Go.Lib in
theorem Tryz.strings_Cut (s sep:ByteArray)(m:Int)(w:World)(hs:s.size<4294967281)(hm:w.cell? ⟨0,0,none⟩=some (.int .i64 m)) :
  Calls Tryz.prog 185 #[.string s,.string sep] w fun e w'=>e=.returned (.tuple #[.string ⟨(Lib.cut s.data.toList sep.data.toList).1.toArray⟩,.string ⟨(Lib.cut s.data.toList sep.data.toList).2.1.toArray⟩,.bool (Lib.cut s.data.toList sep.data.toList).2.2])/\∃n,w'=w.drewN n:=Any.strings_Cut Tryz.aIG s sep m w hs hm
def Tryz.avF:Go.Shelf.Ren:=⟨fun|145=>185|220=>246|219=>292|217=>332|225=>333|224=>334|267=>335|266=>362|314=>363|n=>n,fun|9=>9|4=>4|59=>211|3=>3|5=>5|46=>176|146=>298|51=>293|n=>n,fun|1=>0|n=>n⟩
theorem Tryz.aGF:Go.Proofs.LaysM.n145 Tryz.prog Tryz.avF:={
 mixed:=by kernel_rfl
 f145:=Tryz.func185.trans (congrArg some (by kernel_rfl))
 f217:=Tryz.func332.trans (congrArg some (by kernel_rfl))
 f219:=Tryz.func292.trans (congrArg some (by kernel_rfl))
 f220:=Tryz.func246.trans (congrArg some (by kernel_rfl))
 f224:=Tryz.func334.trans (congrArg some (by kernel_rfl))
 f225:=Tryz.func333.trans (congrArg some (by kernel_rfl))
 f266:=Tryz.func362.trans (congrArg some (by kernel_rfl))
 f267:=Tryz.func335.trans (congrArg some (by kernel_rfl))
 f314:=Tryz.func363.trans (congrArg some (by kernel_rfl))
 t3:=Tryz.underlying3
 a3:=Tryz.isAgg3
 z3:=Tryz.sizeOf3
 v3:=Tryz.zeroValue3
 t4:=Tryz.underlying4
 a4:=Tryz.isAgg4
 z4:=Tryz.sizeOf4
 v4:=Tryz.zeroValue4
 t5:=Tryz.underlying5
 a5:=Tryz.isAgg5
 z5:=Tryz.sizeOf5
 v5:=Tryz.zeroValue5
 t9:=Tryz.underlying9
 a9:=Tryz.isAgg9
 z9:=Tryz.sizeOf9
 v9:=Tryz.zeroValue9
 t46:=Tryz.underlying176
 a46:=Tryz.isAgg176
 z46:=Tryz.sizeOf176
 v46:=Tryz.zeroValue176
 t51:=Tryz.underlying293
 a51:=Tryz.isAgg293
 z51:=Tryz.sizeOf293
 v51:=Tryz.zeroValue293
 t59:=Tryz.underlying211
 a59:=Tryz.isAgg211
 z59:=Tryz.sizeOf211
 v59:=Tryz.zeroValue211
 t146:=Tryz.underlying298
 a146:=Tryz.isAgg298
 z146:=Tryz.sizeOf298
 v146:=Tryz.zeroValue298
 g1:=by kernel_rfl
 i3:=by kernel_rfl
 i4:=by kernel_rfl
 i5:=by kernel_rfl
 i9:=by kernel_rfl
 i46:=by kernel_rfl
 i51:=by kernel_rfl
 i59:=by kernel_rfl
 i146:=by kernel_rfl
 m1:=by kernel_rfl
 s1_3:=fun w h=>Go.Proofs.cell_of_shapedOpen_int (zero:=#[.int .i64 0]) (t:=3) h (of_decide_eq_true (by kernel_rfl)) (by kernel_rfl) rfl (by kernel_rfl) (by kernel_rfl) Tryz.underlying3}
def Tryz.aJR:Go.Shelf.Ren:=⟨fun|221=>291|268=>329|138=>330|143=>331|195=>359|197=>360|218=>361|219=>292|260=>375|217=>332|225=>333|224=>334|267=>335|266=>362|314=>363|n=>n,fun|9=>9|3=>3|31=>206|4=>4|0=>0|105=>296|21=>21|5=>5|46=>176|119=>305|139=>308|138=>307|146=>298|51=>293|n=>n,fun|1=>0|3=>4|4=>5|n=>n⟩
def Tryz.ayg:Go.Shelf.Ren:=⟨fun|146=>245|221=>291|268=>329|138=>330|143=>331|195=>359|197=>360|218=>361|219=>292|260=>375|217=>332|225=>333|224=>334|267=>335|266=>362|314=>363|n=>n,fun|9=>9|31=>206|3=>3|4=>4|0=>0|105=>296|21=>21|5=>5|46=>176|119=>305|139=>308|138=>307|146=>298|51=>293|n=>n,fun|1=>0|3=>4|4=>5|n=>n⟩
theorem Tryz.aIH:Go.Proofs.Lays.n146 Tryz.prog Tryz.ayg:={
 mixed:=by kernel_rfl
 f138:=Tryz.func330.trans (congrArg some (by kernel_rfl))
 f143:=Tryz.func331.trans (congrArg some (by kernel_rfl))
 f146:=Tryz.func245.trans (congrArg some (by kernel_rfl))
 f195:=Tryz.func359.trans (congrArg some (by kernel_rfl))
 f197:=Tryz.func360.trans (congrArg some (by kernel_rfl))
 f217:=Tryz.func332.trans (congrArg some (by kernel_rfl))
 f218:=Tryz.func361.trans (congrArg some (by kernel_rfl))
 f219:=Tryz.func292.trans (congrArg some (by kernel_rfl))
 f221:=Tryz.func291.trans (congrArg some (by kernel_rfl))
 f224:=Tryz.func334.trans (congrArg some (by kernel_rfl))
 f225:=Tryz.func333.trans (congrArg some (by kernel_rfl))
 f260:=Tryz.func375.trans (congrArg some (by kernel_rfl))
 f266:=Tryz.func362.trans (congrArg some (by kernel_rfl))
 f267:=Tryz.func335.trans (congrArg some (by kernel_rfl))
 f268:=Tryz.func329.trans (congrArg some (by kernel_rfl))
 f314:=Tryz.func363.trans (congrArg some (by kernel_rfl))
 t0:=Tryz.underlying0
 a0:=Tryz.isAgg0
 z0:=Tryz.sizeOf0
 v0:=Tryz.zeroValue0
 t3:=Tryz.underlying3
 a3:=Tryz.isAgg3
 z3:=Tryz.sizeOf3
 v3:=Tryz.zeroValue3
 t4:=Tryz.underlying4
 a4:=Tryz.isAgg4
 z4:=Tryz.sizeOf4
 v4:=Tryz.zeroValue4
 t5:=Tryz.underlying5
 a5:=Tryz.isAgg5
 z5:=Tryz.sizeOf5
 v5:=Tryz.zeroValue5
 t9:=Tryz.underlying9
 a9:=Tryz.isAgg9
 z9:=Tryz.sizeOf9
 v9:=Tryz.zeroValue9
 t21:=Tryz.underlying21
 a21:=Tryz.isAgg21
 z21:=Tryz.sizeOf21
 v21:=Tryz.zeroValue21
 t31:=Tryz.underlying206
 a31:=Tryz.isAgg206
 z31:=Tryz.sizeOf206
 v31:=Tryz.zeroValue206
 t46:=Tryz.underlying176
 a46:=Tryz.isAgg176
 z46:=Tryz.sizeOf176
 v46:=Tryz.zeroValue176
 t51:=Tryz.underlying293
 a51:=Tryz.isAgg293
 z51:=Tryz.sizeOf293
 v51:=Tryz.zeroValue293
 t105:=Tryz.underlying296
 a105:=Tryz.isAgg296
 z105:=Tryz.sizeOf296
 v105:=Tryz.zeroValue296
 t119:=Tryz.underlying305
 a119:=Tryz.isAgg305
 z119:=Tryz.sizeOf305
 t138:=Tryz.underlying307
 a138:=Tryz.isAgg307
 z138:=Tryz.sizeOf307
 v138:=Tryz.zeroValue307
 t139:=Tryz.underlying308
 a139:=Tryz.isAgg308
 z139:=Tryz.sizeOf308
 v139:=Tryz.zeroValue308
 t146:=Tryz.underlying298
 a146:=Tryz.isAgg298
 z146:=Tryz.sizeOf298
 v146:=Tryz.zeroValue298
 g1:=by kernel_rfl
 g3:=by kernel_rfl
 g4:=by kernel_rfl}
open Go.RowKit Go.Lib in
theorem Tryz.strings_Split (s sep:ByteArray)(m:Int)(w:World)(hs:s.size<4294967281)(hm:w.cell? ⟨0,0,none⟩=some (.int .i64 m))(h1:1<=sep.size) :
  Calls Tryz.prog 245 #[.string s,.string sep] w fun e w' =>
   e=.returned (.slice (some ⟨w.heap.size,0,none⟩) (Lib.countB s sep+1) (Lib.countB s sep+1))/\w'=w.alloc (.cells ((Lib.splitB sep 0 (Lib.countB s sep) s).map Value.string).toArray 9):=Any.strings_Split Tryz.aIH (by kernel_rfl) s sep m w hs hm h1
end Go.Proofs
