/- No condition. -/
import Derived.Shelf.Strings.Builder1
import Derived.Shelf.Strings.Builder2
import Derived.Shelf.Strings.OnBuilder
import Derived.Shelf.Small.Wraps
import Derived.Shelf.Strings.BuilderF
import Derived.Shelf.Strings.BuilderK
import Derived.Shelf.Utf8.RuneCount
import Derived.Shelf.Strings.Builder2Cap
import Derived.Shelf.Strconv.Itoa0
import Derived.Shelf.Strconv.Itoa1
import Derived.Shelf.LaysM
import Derived.Shelf.Strconv.Itoa2
import Derived.Shelf.Strconv.Itoa3
import Derived.Shelf.Strings.Search1
import Derived.Shelf.Strings.Search2
import Derived.Shelf.Strings.Search3
import Derived.Shelf.Strings.Cut
import Derived.Shelf.Strings.Count
import Derived.Shelf.Strings.Shaped
import Derived.Shelf.Strings.LastIndex
import Derived.Shelf.Strings.Prefix
import Derived.Shelf.Strings.Split
import Derived.Shelf.Strings.SplitShaped
import Derived.Shelf.Unicode.Decode
import Derived.Shelf.Strings.RuneCount
import Derived.Shelf.Strings.Explode
import Derived.Shelf.Unicode.DecodeSlow
import Derived.Shelf.Unicode.DecodeAny
import Derived.Shelf.Strings.BuilderCap
import Derived.Shelf.Slices.Turned
import Derived.Shelf.Slices.Equal
import Derived.Ground.Names2Prog
import Derived.Shelf.Slices.SearchI
import Derived.Shelf.Slices.Empties2
import Derived.Test.YtpkabclplaibaaaGreatDoorProg
set_option linter.all false
namespace Go.Proofs
open Go.Shelf
def Tryz.TC:Go.Shelf.Ren:=⟨fun|156=>69|165=>138|166=>139|169=>140|240=>209|241=>210|276=>274|277=>275|n=>n,fun|31=>86|9=>9|3=>3|4=>4|0=>0|20=>20|72=>145|76=>149|70=>143|37=>22|75=>148|127=>212|164=>261|5=>5|80=>151|n=>n,fun|n=>n⟩
theorem Tryz.ajd:Go.Proofs.Lays.n156 Tryz.prog Tryz.TC:={
 mixed:=by kernel_rfl
 f156:=Tryz.func69.trans (congrArg some (by kernel_rfl))
 f165:=Tryz.func138.trans (congrArg some (by kernel_rfl))
 f166:=Tryz.func139.trans (congrArg some (by kernel_rfl))
 f169:=Tryz.func140.trans (congrArg some (by kernel_rfl))
 f240:=Tryz.func209.trans (congrArg some (by kernel_rfl))
 f241:=Tryz.func210.trans (congrArg some (by kernel_rfl))
 f276:=Tryz.func274.trans (congrArg some (by kernel_rfl))
 f277:=Tryz.func275.trans (congrArg some (by kernel_rfl))
 t0:=Tryz.underlying0
 a0:=Tryz.isAgg0
 z0:=Tryz.sizeOf0
 v0:=Tryz.zeroValue0
 t3:=Tryz.underlying3
 a3:=Tryz.isAgg3
 z3:=Tryz.sizeOf3
 v3:=Tryz.zeroValue3
 t4:=Tryz.underlying4
 a4:=Tryz.isAgg4
 z4:=Tryz.sizeOf4
 v4:=Tryz.zeroValue4
 t9:=Tryz.underlying9
 a9:=Tryz.isAgg9
 z9:=Tryz.sizeOf9
 v9:=Tryz.zeroValue9
 t20:=Tryz.underlying20
 a20:=Tryz.isAgg20
 z20:=Tryz.sizeOf20
 v20:=Tryz.zeroValue20
 t31:=Tryz.underlying86
 a31:=Tryz.isAgg86
 z31:=Tryz.sizeOf86
 v31:=Tryz.zeroValue86
 t37:=Tryz.underlying22
 a37:=Tryz.isAgg22
 z37:=Tryz.sizeOf22
 v37:=Tryz.zeroValue22
 t70:=Tryz.underlying143
 a70:=Tryz.isAgg143
 z70:=Tryz.sizeOf143
 v70:=Tryz.zeroValue143
 t72:=Tryz.underlying145
 a72:=Tryz.isAgg145
 z72:=Tryz.sizeOf145
 v72:=Tryz.zeroValue145
 t75:=Tryz.underlying148
 a75:=Tryz.isAgg148
 z75:=Tryz.sizeOf148
 v75:=Tryz.zeroValue148
 t76:=Tryz.underlying149
 a76:=Tryz.isAgg149
 z76:=Tryz.sizeOf149
 v76:=Tryz.zeroValue149
 t127:=Tryz.underlying212
 a127:=Tryz.isAgg212
 z127:=Tryz.sizeOf212
 v127:=Tryz.zeroValue212
 t164:=Tryz.underlying261
 a164:=Tryz.isAgg261
 z164:=Tryz.sizeOf261
 v164:=Tryz.zeroValue261}
theorem Tryz.C7:Builder.Extra Tryz.prog Tryz.TC:={
 sizeBuilder:=by kernel_rfl
 liesBuilder:=by kernel_rfl
 t5:=Tryz.underlying5
 a5:=Tryz.isAgg5
 z5:=Tryz.sizeOf5
 v5:=Tryz.zeroValue5
 infoByte:=by kernel_rfl
 cellsByte:=by kernel_rfl
 sizeByte:=by kernel_rfl
 neB5:=by decide}
open Go.RowKit in
theorem Tryz.strings_Join_none (a:Option Addr)(c:Nat)(sep:ByteArray)(w:World) :
  Calls Tryz.prog 69 #[.slice a 0 c,.string sep] w fun e w'=>e=.returned (.string ⟨#[]⟩)/\w'=w:=Any.strings_Join_none Tryz.ajd Tryz.C7 a c sep w
open Go.RowKit in
theorem Tryz.strings_Join (bk o c:Nat)(xs:List ByteArray)(sep:ByteArray)(w:World)(hcells:∀(j:Nat) x,xs[j]?=some x->w.cell? ⟨bk,o+j,none⟩=some (.string x))(hbk:bk<w.heap.size)(hN:xs.length<=140737488355328)(hcap:xs.length<=c)(hlen:(Lib.join (xs.map (·.data.toList)) sep.data.toList).length<=140737488355328) :
  Calls Tryz.prog 69 #[.slice (some ⟨bk,o,none⟩) xs.length c,.string sep] w fun e w'=>e=.returned (.string ⟨(Lib.join (xs.map (·.data.toList)) sep.data.toList).toArray⟩)/\Below w.heap.size w w':=Any.strings_Join Tryz.ajd Tryz.C7 bk o c xs sep w hcells hbk hN hcap hlen
def Tryz.an8:Go.Shelf.Ren:=⟨fun|246=>273|283=>306|284=>307|285=>308|286=>309|129=>327|317=>326|318=>328|319=>329|320=>330|337=>348|338=>349|n=>n,fun|2=>2|3=>3|9=>9|4=>4|171=>274|0=>0|53=>275|37=>22|5=>5|173=>278|212=>292|51=>293|20=>20|213=>294|46=>235|232=>314|233=>315|n=>n,fun|17=>1|18=>2|19=>3|n=>n⟩
def Tryz.an9:Go.Shelf.Ren:=⟨fun|243=>208|246=>273|283=>306|284=>307|285=>308|286=>309|129=>327|317=>326|318=>328|319=>329|320=>330|337=>348|338=>349|n=>n,fun|3=>3|9=>9|2=>2|4=>4|171=>274|0=>0|53=>275|37=>22|5=>5|173=>278|212=>292|51=>293|20=>20|213=>294|46=>235|232=>314|233=>315|n=>n,fun|17=>1|18=>2|19=>3|n=>n⟩
def Tryz.acQ:Go.Shelf.Ren:=⟨fun|171=>137|243=>208|246=>273|283=>306|284=>307|285=>308|286=>309|129=>327|317=>326|318=>328|319=>329|320=>330|337=>348|338=>349|n=>n,fun|3=>3|9=>9|2=>2|4=>4|171=>274|0=>0|53=>275|37=>22|5=>5|173=>278|212=>292|51=>293|20=>20|213=>294|46=>235|232=>314|233=>315|n=>n,fun|17=>1|18=>2|19=>3|n=>n⟩
theorem Tryz.al7:Go.Proofs.LaysM.n171 Tryz.prog Tryz.acQ:={
 mixed:=by kernel_rfl
 f129:=Tryz.func327.trans (congrArg some (by kernel_rfl))
 f171:=Tryz.func137.trans (congrArg some (by kernel_rfl))
 f243:=Tryz.func208.trans (congrArg some (by kernel_rfl))
 f246:=Tryz.func273.trans (congrArg some (by kernel_rfl))
 f283:=Tryz.func306.trans (congrArg some (by kernel_rfl))
 f284:=Tryz.func307.trans (congrArg some (by kernel_rfl))
 f285:=Tryz.func308.trans (congrArg some (by kernel_rfl))
 f286:=Tryz.func309.trans (congrArg some (by kernel_rfl))
 f317:=Tryz.func326.trans (congrArg some (by kernel_rfl))
 f318:=Tryz.func328.trans (congrArg some (by kernel_rfl))
 f319:=Tryz.func329.trans (congrArg some (by kernel_rfl))
 f320:=Tryz.func330.trans (congrArg some (by kernel_rfl))
 f337:=Tryz.func348.trans (congrArg some (by kernel_rfl))
 f338:=Tryz.func349.trans (congrArg some (by kernel_rfl))
 t0:=Tryz.underlying0
 a0:=Tryz.isAgg0
 z0:=Tryz.sizeOf0
 v0:=Tryz.zeroValue0
 t2:=Tryz.underlying2
 a2:=Tryz.isAgg2
 z2:=Tryz.sizeOf2
 v2:=Tryz.zeroValue2
 t3:=Tryz.underlying3
 a3:=Tryz.isAgg3
 z3:=Tryz.sizeOf3
 v3:=Tryz.zeroValue3
 t4:=Tryz.underlying4
 a4:=Tryz.isAgg4
 z4:=Tryz.sizeOf4
 v4:=Tryz.zeroValue4
 t5:=Tryz.underlying5
 a5:=Tryz.isAgg5
 z5:=Tryz.sizeOf5
 v5:=Tryz.zeroValue5
 t9:=Tryz.underlying9
 a9:=Tryz.isAgg9
 z9:=Tryz.sizeOf9
 v9:=Tryz.zeroValue9
 t20:=Tryz.underlying20
 a20:=Tryz.isAgg20
 z20:=Tryz.sizeOf20
 v20:=Tryz.zeroValue20
 t37:=Tryz.underlying22
 a37:=Tryz.isAgg22
 z37:=Tryz.sizeOf22
 v37:=Tryz.zeroValue22
 t46:=Tryz.underlying235
 a46:=Tryz.isAgg235
 z46:=Tryz.sizeOf235
 v46:=Tryz.zeroValue235
 t51:=Tryz.underlying293
 a51:=Tryz.isAgg293
 z51:=Tryz.sizeOf293
 v51:=Tryz.zeroValue293
 t53:=Tryz.underlying275
 a53:=Tryz.isAgg275
 z53:=Tryz.sizeOf275
 v53:=Tryz.zeroValue275
 t171:=Tryz.underlying274
 a171:=Tryz.isAgg274
 z171:=Tryz.sizeOf274
 v171:=Tryz.zeroValue274
 t173:=Tryz.underlying278
 a173:=Tryz.isAgg278
 z173:=Tryz.sizeOf278
 v173:=Tryz.zeroValue278
 t212:=Tryz.underlying292
 a212:=Tryz.isAgg292
 z212:=Tryz.sizeOf292
 v212:=Tryz.zeroValue292
 t213:=Tryz.underlying294
 a213:=Tryz.isAgg294
 z213:=Tryz.sizeOf294
 t232:=Tryz.underlying314
 a232:=Tryz.isAgg314
 z232:=Tryz.sizeOf314
 v232:=Tryz.zeroValue314
 t233:=Tryz.underlying315
 a233:=Tryz.isAgg315
 z233:=Tryz.sizeOf315
 v233:=Tryz.zeroValue315
 g17:=by kernel_rfl
 g18:=by kernel_rfl
 g19:=by kernel_rfl
 i0:=by kernel_rfl
 i2:=by kernel_rfl
 i3:=by kernel_rfl
 i4:=by kernel_rfl
 i5:=by kernel_rfl
 i9:=by kernel_rfl
 i20:=by kernel_rfl
 i37:=by kernel_rfl
 i46:=by kernel_rfl
 i51:=by kernel_rfl
 i53:=by kernel_rfl
 i171:=by kernel_rfl
 i173:=by kernel_rfl
 i212:=by kernel_rfl
 i232:=by kernel_rfl
 i233:=by kernel_rfl
 m17:=by kernel_rfl
 m18:=by kernel_rfl
 m19:=by kernel_rfl}
open Go.RowKit Go.Sort Go.Lib in
theorem Tryz.strconv_Itoa (n : Int) (h0 : -9223372036854775808 ≤ n) (h1 : n ≤ 9223372036854775807) (w : World) (htab : Lib.TabIs Tryz.prog w "internal/strconv.uint64pow10" .u64 Lib.pow10Tab) :
  Calls Tryz.prog 137 #[.int .i64 n] w fun e w'=>e=.returned (.string ⟨(Lib.itoa n).toArray⟩)/\∃k os,w'=grow (w.drewN k) os:=Any.strconv_Itoa Tryz.al7 n h0 h1 w htab
def Tryz.ao8:Go.Shelf.Ren:=⟨fun|219=>311|217=>334|225=>335|224=>336|267=>337|266=>353|314=>354|n=>n,fun|9=>9|3=>3|4=>4|5=>5|46=>235|146=>307|51=>293|n=>n,fun|1=>0|n=>n⟩
def Tryz.aeL:Go.Shelf.Ren:=⟨fun|145=>212|220=>277|219=>311|217=>334|225=>335|224=>336|267=>337|266=>353|314=>354|n=>n,fun|9=>9|4=>4|59=>214|3=>3|5=>5|46=>235|146=>307|51=>293|n=>n,fun|1=>0|n=>n⟩
theorem Tryz.aoa:Go.Proofs.Lays.n145 Tryz.prog Tryz.aeL:={
 mixed:=by kernel_rfl
 f145:=Tryz.func212.trans (congrArg some (by kernel_rfl))
 f217:=Tryz.func334.trans (congrArg some (by kernel_rfl))
 f219:=Tryz.func311.trans (congrArg some (by kernel_rfl))
 f220:=Tryz.func277.trans (congrArg some (by kernel_rfl))
 f224:=Tryz.func336.trans (congrArg some (by kernel_rfl))
 f225:=Tryz.func335.trans (congrArg some (by kernel_rfl))
 f266:=Tryz.func353.trans (congrArg some (by kernel_rfl))
 f267:=Tryz.func337.trans (congrArg some (by kernel_rfl))
 f314:=Tryz.func354.trans (congrArg some (by kernel_rfl))
 t3:=Tryz.underlying3
 a3:=Tryz.isAgg3
 z3:=Tryz.sizeOf3
 v3:=Tryz.zeroValue3
 t4:=Tryz.underlying4
 a4:=Tryz.isAgg4
 z4:=Tryz.sizeOf4
 v4:=Tryz.zeroValue4
 t5:=Tryz.underlying5
 a5:=Tryz.isAgg5
 z5:=Tryz.sizeOf5
 v5:=Tryz.zeroValue5
 t9:=Tryz.underlying9
 a9:=Tryz.isAgg9
 z9:=Tryz.sizeOf9
 v9:=Tryz.zeroValue9
 t46:=Tryz.underlying235
 a46:=Tryz.isAgg235
 z46:=Tryz.sizeOf235
 v46:=Tryz.zeroValue235
 t51:=Tryz.underlying293
 a51:=Tryz.isAgg293
 z51:=Tryz.sizeOf293
 v51:=Tryz.zeroValue293
 t59:=Tryz.underlying214
 a59:=Tryz.isAgg214
 z59:=Tryz.sizeOf214
 v59:=Tryz.zeroValue214
 t146:=Tryz.underlying307
 a146:=Tryz.isAgg307
 z146:=Tryz.sizeOf307
 v146:=Tryz.zeroValue307
 g1:=by kernel_rfl}
open Go.RowKit Go.Lib in
theorem Tryz.strings_Cut (s sep:ByteArray)(m:Int)(w:World)(hs:s.size<4294967281)(hm:w.cell? ⟨0,0,none⟩=some (.int .i64 m)) :
  Calls Tryz.prog 212 #[.string s,.string sep] w fun e w'=>e=.returned (.tuple #[.string ⟨(Lib.cut s.data.toList sep.data.toList).1.toArray⟩,.string ⟨(Lib.cut s.data.toList sep.data.toList).2.1.toArray⟩,.bool (Lib.cut s.data.toList sep.data.toList).2.2])/\∃n,w'=w.drewN n:=Any.strings_Cut Tryz.aoa s sep m w hs hm
def Tryz.acR:Go.Shelf.Ren:=⟨fun|145=>212|220=>277|219=>311|217=>334|225=>335|224=>336|267=>337|266=>353|314=>354|n=>n,fun|9=>9|4=>4|59=>214|3=>3|5=>5|46=>235|146=>307|51=>293|n=>n,fun|1=>0|n=>n⟩
theorem Tryz.al8:Go.Proofs.LaysM.n145 Tryz.prog Tryz.acR:={
 mixed:=by kernel_rfl
 f145:=Tryz.func212.trans (congrArg some (by kernel_rfl))
 f217:=Tryz.func334.trans (congrArg some (by kernel_rfl))
 f219:=Tryz.func311.trans (congrArg some (by kernel_rfl))
 f220:=Tryz.func277.trans (congrArg some (by kernel_rfl))
 f224:=Tryz.func336.trans (congrArg some (by kernel_rfl))
 f225:=Tryz.func335.trans (congrArg some (by kernel_rfl))
 f266:=Tryz.func353.trans (congrArg some (by kernel_rfl))
 f267:=Tryz.func337.trans (congrArg some (by kernel_rfl))
 f314:=Tryz.func354.trans (congrArg some (by kernel_rfl))
 t3:=Tryz.underlying3
 a3:=Tryz.isAgg3
 z3:=Tryz.sizeOf3
 v3:=Tryz.zeroValue3
 t4:=Tryz.underlying4
 a4:=Tryz.isAgg4
 z4:=Tryz.sizeOf4
 v4:=Tryz.zeroValue4
 t5:=Tryz.underlying5
 a5:=Tryz.isAgg5
 z5:=Tryz.sizeOf5
 v5:=Tryz.zeroValue5
 t9:=Tryz.underlying9
 a9:=Tryz.isAgg9
 z9:=Tryz.sizeOf9
 v9:=Tryz.zeroValue9
 t46:=Tryz.underlying235
 a46:=Tryz.isAgg235
 z46:=Tryz.sizeOf235
 v46:=Tryz.zeroValue235
 t51:=Tryz.underlying293
 a51:=Tryz.isAgg293
 z51:=Tryz.sizeOf293
 v51:=Tryz.zeroValue293
 t59:=Tryz.underlying214
 a59:=Tryz.isAgg214
 z59:=Tryz.sizeOf214
 v59:=Tryz.zeroValue214
 t146:=Tryz.underlying307
 a146:=Tryz.isAgg307
 z146:=Tryz.sizeOf307
 v146:=Tryz.zeroValue307
 g1:=by kernel_rfl
 i3:=by kernel_rfl
 i4:=by kernel_rfl
 i5:=by kernel_rfl
 i9:=by kernel_rfl
 i46:=by kernel_rfl
 i51:=by kernel_rfl
 i59:=by kernel_rfl
 i146:=by kernel_rfl
 m1:=by kernel_rfl
 s1_3:=fun w h=>Go.Proofs.cell_of_shapedOpen_int (zero:=#[.int .i64 0]) (t:=3) h (of_decide_eq_true (by kernel_rfl)) (by kernel_rfl) rfl (by kernel_rfl) (by kernel_rfl) Tryz.underlying3}
def Tryz.ao9:Go.Shelf.Ren:=⟨fun|221=>310|268=>331|138=>332|143=>333|195=>350|197=>351|218=>352|219=>311|260=>362|217=>334|225=>335|224=>336|267=>337|266=>353|314=>354|n=>n,fun|9=>9|3=>3|31=>86|4=>4|0=>0|105=>305|21=>21|5=>5|46=>235|119=>322|139=>325|138=>324|146=>307|51=>293|n=>n,fun|1=>0|3=>4|4=>5|n=>n⟩
def Tryz.aeM:Go.Shelf.Ren:=⟨fun|146=>276|221=>310|268=>331|138=>332|143=>333|195=>350|197=>351|218=>352|219=>311|260=>362|217=>334|225=>335|224=>336|267=>337|266=>353|314=>354|n=>n,fun|9=>9|31=>86|3=>3|4=>4|0=>0|105=>305|21=>21|5=>5|46=>235|119=>322|139=>325|138=>324|146=>307|51=>293|n=>n,fun|1=>0|3=>4|4=>5|n=>n⟩
theorem Tryz.aob:Go.Proofs.Lays.n146 Tryz.prog Tryz.aeM:={
 mixed:=by kernel_rfl
 f138:=Tryz.func332.trans (congrArg some (by kernel_rfl))
 f143:=Tryz.func333.trans (congrArg some (by kernel_rfl))
 f146:=Tryz.func276.trans (congrArg some (by kernel_rfl))
 f195:=Tryz.func350.trans (congrArg some (by kernel_rfl))
 f197:=Tryz.func351.trans (congrArg some (by kernel_rfl))
 f217:=Tryz.func334.trans (congrArg some (by kernel_rfl))
 f218:=Tryz.func352.trans (congrArg some (by kernel_rfl))
 f219:=Tryz.func311.trans (congrArg some (by kernel_rfl))
 f221:=Tryz.func310.trans (congrArg some (by kernel_rfl))
 f224:=Tryz.func336.trans (congrArg some (by kernel_rfl))
 f225:=Tryz.func335.trans (congrArg some (by kernel_rfl))
 f260:=Tryz.func362.trans (congrArg some (by kernel_rfl))
 f266:=Tryz.func353.trans (congrArg some (by kernel_rfl))
 f267:=Tryz.func337.trans (congrArg some (by kernel_rfl))
 f268:=Tryz.func331.trans (congrArg some (by kernel_rfl))
 f314:=Tryz.func354.trans (congrArg some (by kernel_rfl))
 t0:=Tryz.underlying0
 a0:=Tryz.isAgg0
 z0:=Tryz.sizeOf0
 v0:=Tryz.zeroValue0
 t3:=Tryz.underlying3
 a3:=Tryz.isAgg3
 z3:=Tryz.sizeOf3
 v3:=Tryz.zeroValue3
 t4:=Tryz.underlying4
 a4:=Tryz.isAgg4
 z4:=Tryz.sizeOf4
 v4:=Tryz.zeroValue4
 t5:=Tryz.underlying5
 a5:=Tryz.isAgg5
 z5:=Tryz.sizeOf5
 v5:=Tryz.zeroValue5
 t9:=Tryz.underlying9
 a9:=Tryz.isAgg9
 z9:=Tryz.sizeOf9
 v9:=Tryz.zeroValue9
 t21:=Tryz.underlying21
 a21:=Tryz.isAgg21
 z21:=Tryz.sizeOf21
 v21:=Tryz.zeroValue21
 t31:=Tryz.underlying86
 a31:=Tryz.isAgg86
 z31:=Tryz.sizeOf86
 v31:=Tryz.zeroValue86
 t46:=Tryz.underlying235
 a46:=Tryz.isAgg235
 z46:=Tryz.sizeOf235
 v46:=Tryz.zeroValue235
 t51:=Tryz.underlying293
 a51:=Tryz.isAgg293
 z51:=Tryz.sizeOf293
 v51:=Tryz.zeroValue293
 t105:=Tryz.underlying305
 a105:=Tryz.isAgg305
 z105:=Tryz.sizeOf305
 v105:=Tryz.zeroValue305
 t119:=Tryz.underlying322
 a119:=Tryz.isAgg322
 z119:=Tryz.sizeOf322
 t138:=Tryz.underlying324
 a138:=Tryz.isAgg324
 z138:=Tryz.sizeOf324
 v138:=Tryz.zeroValue324
 t139:=Tryz.underlying325
 a139:=Tryz.isAgg325
 z139:=Tryz.sizeOf325
 v139:=Tryz.zeroValue325
 t146:=Tryz.underlying307
 a146:=Tryz.isAgg307
 z146:=Tryz.sizeOf307
 v146:=Tryz.zeroValue307
 g1:=by kernel_rfl
 g3:=by kernel_rfl
 g4:=by kernel_rfl}
open Go.RowKit Go.Lib in
theorem Tryz.strings_Split (s sep:ByteArray)(m:Int)(w:World)(hs:s.size<4294967281)(hm:w.cell? ⟨0,0,none⟩=some (.int .i64 m))(h1:1<=sep.size) :
  Calls Tryz.prog 276 #[.string s,.string sep] w fun e w' =>
   e=.returned (.slice (some ⟨w.heap.size,0,none⟩) (Lib.countB s sep+1) (Lib.countB s sep+1))/\w'=w.alloc (.cells ((Lib.splitB sep 0 (Lib.countB s sep) s).map Value.string).toArray 9):=Any.strings_Split Tryz.aob (by kernel_rfl) s sep m w hs hm h1
end Go.Proofs
