/- No condition. -/
import Derived.Shelf.Strings.Builder1
import Derived.Shelf.Strings.Builder2
import Derived.Shelf.Strings.OnBuilder
import Derived.Shelf.Small.Wraps
import Derived.Shelf.Strings.BuilderF
import Derived.Shelf.Strings.BuilderK
import Derived.Shelf.Utf8.RuneCount
import Derived.Shelf.Strings.Builder2Cap
import Derived.Shelf.Strconv.Itoa0
import Derived.Shelf.Strconv.Itoa1
import Derived.Shelf.LaysM
import Derived.Shelf.Strconv.Itoa2
import Derived.Shelf.Strconv.Itoa3
import Derived.Shelf.Strings.Search1
import Derived.Shelf.Strings.Search2
import Derived.Shelf.Strings.Search3
import Derived.Shelf.Strings.Cut
import Derived.Shelf.Strings.Count
import Derived.Shelf.Strings.Shaped
import Derived.Shelf.Strings.LastIndex
import Derived.Shelf.Strings.Prefix
import Derived.Shelf.Strings.Split
import Derived.Shelf.Strings.SplitShaped
import Derived.Shelf.Unicode.Decode
import Derived.Shelf.Strings.RuneCount
import Derived.Shelf.Strings.Explode
import Derived.Shelf.Unicode.DecodeSlow
import Derived.Shelf.Unicode.DecodeAny
import Derived.Shelf.Strings.BuilderCap
import Derived.Shelf.Slices.Turned
import Derived.Shelf.Slices.Reverse
import Derived.Shelf.Slices.Equal
import Derived.Ground.Names2Prog
import Derived.Shelf.Slices.SearchI
import Derived.Shelf.Slices.Cells
import Derived.Shelf.Slices.Empties2
import Derived.Test.YtaheoongenkdbaaGreatDoorProg
set_option linter.all false
namespace Go.Proofs
open Go.Shelf
def Tryz.afY:Go.Shelf.Ren:=⟨fun|156=>334|165=>351|166=>352|169=>353|240=>361|241=>362|276=>366|277=>367|n=>n,fun|31=>181|9=>9|3=>3|4=>4|0=>0|20=>20|72=>286|76=>290|70=>284|37=>22|75=>289|127=>300|164=>302|5=>5|80=>162|n=>n,fun|n=>n⟩
theorem Tryz.ayf:Go.Proofs.Lays.n156 Tryz.prog Tryz.afY:={
 mixed:=by kernel_rfl
 f156:=Tryz.func334.trans (congrArg some (by kernel_rfl))
 f165:=Tryz.func351.trans (congrArg some (by kernel_rfl))
 f166:=Tryz.func352.trans (congrArg some (by kernel_rfl))
 f169:=Tryz.func353.trans (congrArg some (by kernel_rfl))
 f240:=Tryz.func361.trans (congrArg some (by kernel_rfl))
 f241:=Tryz.func362.trans (congrArg some (by kernel_rfl))
 f276:=Tryz.func366.trans (congrArg some (by kernel_rfl))
 f277:=Tryz.func367.trans (congrArg some (by kernel_rfl))
 t0:=Tryz.underlying0
 a0:=Tryz.isAgg0
 z0:=Tryz.sizeOf0
 v0:=Tryz.zeroValue0
 t3:=Tryz.underlying3
 a3:=Tryz.isAgg3
 z3:=Tryz.sizeOf3
 v3:=Tryz.zeroValue3
 t4:=Tryz.underlying4
 a4:=Tryz.isAgg4
 z4:=Tryz.sizeOf4
 v4:=Tryz.zeroValue4
 t9:=Tryz.underlying9
 a9:=Tryz.isAgg9
 z9:=Tryz.sizeOf9
 v9:=Tryz.zeroValue9
 t20:=Tryz.underlying20
 a20:=Tryz.isAgg20
 z20:=Tryz.sizeOf20
 v20:=Tryz.zeroValue20
 t31:=Tryz.underlying181
 a31:=Tryz.isAgg181
 z31:=Tryz.sizeOf181
 v31:=Tryz.zeroValue181
 t37:=Tryz.underlying22
 a37:=Tryz.isAgg22
 z37:=Tryz.sizeOf22
 v37:=Tryz.zeroValue22
 t70:=Tryz.underlying284
 a70:=Tryz.isAgg284
 z70:=Tryz.sizeOf284
 v70:=Tryz.zeroValue284
 t72:=Tryz.underlying286
 a72:=Tryz.isAgg286
 z72:=Tryz.sizeOf286
 v72:=Tryz.zeroValue286
 t75:=Tryz.underlying289
 a75:=Tryz.isAgg289
 z75:=Tryz.sizeOf289
 v75:=Tryz.zeroValue289
 t76:=Tryz.underlying290
 a76:=Tryz.isAgg290
 z76:=Tryz.sizeOf290
 v76:=Tryz.zeroValue290
 t127:=Tryz.underlying300
 a127:=Tryz.isAgg300
 z127:=Tryz.sizeOf300
 v127:=Tryz.zeroValue300
 t164:=Tryz.underlying302
 a164:=Tryz.isAgg302
 z164:=Tryz.sizeOf302
 v164:=Tryz.zeroValue302}
theorem Tryz.Kd:Builder.Extra Tryz.prog Tryz.afY:={
 sizeBuilder:=by kernel_rfl
 liesBuilder:=by kernel_rfl
 t5:=Tryz.underlying5
 a5:=Tryz.isAgg5
 z5:=Tryz.sizeOf5
 v5:=Tryz.zeroValue5
 infoByte:=by kernel_rfl
 cellsByte:=by kernel_rfl
 sizeByte:=by kernel_rfl
 neB5:=by decide}
open Go.RowKit in
theorem Tryz.strings_Join_none (a:Option Addr)(c:Nat)(sep:ByteArray)(w:World) :
  Calls Tryz.prog 334 #[.slice a 0 c,.string sep] w fun e w'=>e=.returned (.string ⟨#[]⟩)/\w'=w:=Any.strings_Join_none Tryz.ayf Tryz.Kd a c sep w
open Go.RowKit in
theorem Tryz.strings_Join (bk o c:Nat)(xs:List ByteArray)(sep:ByteArray)(w:World)(hcells:∀(j:Nat) x,xs[j]?=some x->w.cell? ⟨bk,o+j,none⟩=some (.string x))(hbk:bk<w.heap.size)(hN:xs.length<=140737488355328)(hcap:xs.length<=c)(hlen:(Lib.join (xs.map (·.data.toList)) sep.data.toList).length<=140737488355328) :
  Calls Tryz.prog 334 #[.slice (some ⟨bk,o,none⟩) xs.length c,.string sep] w fun e w'=>e=.returned (.string ⟨(Lib.join (xs.map (·.data.toList)) sep.data.toList).toArray⟩)/\Below w.heap.size w w':=Any.strings_Join Tryz.ayf Tryz.Kd bk o c xs sep w hcells hbk hN hcap hlen
def Tryz.aCZ:Go.Shelf.Ren:=⟨fun|246=>332|283=>346|284=>347|285=>348|286=>349|129=>357|317=>356|318=>358|319=>359|320=>360|337=>364|338=>365|n=>n,fun|2=>2|3=>3|9=>9|4=>4|171=>277|0=>0|53=>278|37=>22|5=>5|173=>281|212=>297|51=>268|20=>20|213=>298|46=>150|232=>305|233=>306|n=>n,fun|17=>3|18=>4|19=>5|n=>n⟩
def Tryz.aC0:Go.Shelf.Ren:=⟨fun|243=>307|246=>332|283=>346|284=>347|285=>348|286=>349|129=>357|317=>356|318=>358|319=>359|320=>360|337=>364|338=>365|n=>n,fun|3=>3|9=>9|2=>2|4=>4|171=>277|0=>0|53=>278|37=>22|5=>5|173=>281|212=>297|51=>268|20=>20|213=>298|46=>150|232=>305|233=>306|n=>n,fun|17=>3|18=>4|19=>5|n=>n⟩
def Tryz.arv:Go.Shelf.Ren:=⟨fun|171=>259|243=>307|246=>332|283=>346|284=>347|285=>348|286=>349|129=>357|317=>356|318=>358|319=>359|320=>360|337=>364|338=>365|n=>n,fun|3=>3|9=>9|2=>2|4=>4|171=>277|0=>0|53=>278|37=>22|5=>5|173=>281|212=>297|51=>268|20=>20|213=>298|46=>150|232=>305|233=>306|n=>n,fun|17=>3|18=>4|19=>5|n=>n⟩
theorem Tryz.aBh:Go.Proofs.LaysM.n171 Tryz.prog Tryz.arv:={
 mixed:=by kernel_rfl
 f129:=Tryz.func357.trans (congrArg some (by kernel_rfl))
 f171:=Tryz.func259.trans (congrArg some (by kernel_rfl))
 f243:=Tryz.func307.trans (congrArg some (by kernel_rfl))
 f246:=Tryz.func332.trans (congrArg some (by kernel_rfl))
 f283:=Tryz.func346.trans (congrArg some (by kernel_rfl))
 f284:=Tryz.func347.trans (congrArg some (by kernel_rfl))
 f285:=Tryz.func348.trans (congrArg some (by kernel_rfl))
 f286:=Tryz.func349.trans (congrArg some (by kernel_rfl))
 f317:=Tryz.func356.trans (congrArg some (by kernel_rfl))
 f318:=Tryz.func358.trans (congrArg some (by kernel_rfl))
 f319:=Tryz.func359.trans (congrArg some (by kernel_rfl))
 f320:=Tryz.func360.trans (congrArg some (by kernel_rfl))
 f337:=Tryz.func364.trans (congrArg some (by kernel_rfl))
 f338:=Tryz.func365.trans (congrArg some (by kernel_rfl))
 t0:=Tryz.underlying0
 a0:=Tryz.isAgg0
 z0:=Tryz.sizeOf0
 v0:=Tryz.zeroValue0
 t2:=Tryz.underlying2
 a2:=Tryz.isAgg2
 z2:=Tryz.sizeOf2
 v2:=Tryz.zeroValue2
 t3:=Tryz.underlying3
 a3:=Tryz.isAgg3
 z3:=Tryz.sizeOf3
 v3:=Tryz.zeroValue3
 t4:=Tryz.underlying4
 a4:=Tryz.isAgg4
 z4:=Tryz.sizeOf4
 v4:=Tryz.zeroValue4
 t5:=Tryz.underlying5
 a5:=Tryz.isAgg5
 z5:=Tryz.sizeOf5
 v5:=Tryz.zeroValue5
 t9:=Tryz.underlying9
 a9:=Tryz.isAgg9
 z9:=Tryz.sizeOf9
 v9:=Tryz.zeroValue9
 t20:=Tryz.underlying20
 a20:=Tryz.isAgg20
 z20:=Tryz.sizeOf20
 v20:=Tryz.zeroValue20
 t37:=Tryz.underlying22
 a37:=Tryz.isAgg22
 z37:=Tryz.sizeOf22
 v37:=Tryz.zeroValue22
 t46:=Tryz.underlying150
 a46:=Tryz.isAgg150
 z46:=Tryz.sizeOf150
 v46:=Tryz.zeroValue150
 t51:=Tryz.underlying268
 a51:=Tryz.isAgg268
 z51:=Tryz.sizeOf268
 v51:=Tryz.zeroValue268
 t53:=Tryz.underlying278
 a53:=Tryz.isAgg278
 z53:=Tryz.sizeOf278
 v53:=Tryz.zeroValue278
 t171:=Tryz.underlying277
 a171:=Tryz.isAgg277
 z171:=Tryz.sizeOf277
 v171:=Tryz.zeroValue277
 t173:=Tryz.underlying281
 a173:=Tryz.isAgg281
 z173:=Tryz.sizeOf281
 v173:=Tryz.zeroValue281
 t212:=Tryz.underlying297
 a212:=Tryz.isAgg297
 z212:=Tryz.sizeOf297
 v212:=Tryz.zeroValue297
 t213:=Tryz.underlying298
 a213:=Tryz.isAgg298
 z213:=Tryz.sizeOf298
 t232:=Tryz.underlying305
 a232:=Tryz.isAgg305
 z232:=Tryz.sizeOf305
 v232:=Tryz.zeroValue305
 t233:=Tryz.underlying306
 a233:=Tryz.isAgg306
 z233:=Tryz.sizeOf306
 v233:=Tryz.zeroValue306
 g17:=by kernel_rfl
 g18:=by kernel_rfl
 g19:=by kernel_rfl
 i0:=by kernel_rfl
 i2:=by kernel_rfl
 i3:=by kernel_rfl
 i4:=by kernel_rfl
 i5:=by kernel_rfl
 i9:=by kernel_rfl
 i20:=by kernel_rfl
 i37:=by kernel_rfl
 i46:=by kernel_rfl
 i51:=by kernel_rfl
 i53:=by kernel_rfl
 i171:=by kernel_rfl
 i173:=by kernel_rfl
 i212:=by kernel_rfl
 i232:=by kernel_rfl
 i233:=by kernel_rfl
 m17:=by kernel_rfl
 m18:=by kernel_rfl
 m19:=by kernel_rfl}
open Go.RowKit Go.Sort Go.Lib in
theorem Tryz.strconv_Itoa (n : Int) (h0 : -9223372036854775808 ≤ n) (h1 : n ≤ 9223372036854775807) (w : World) (htab : Lib.TabIs Tryz.prog w "internal/strconv.uint64pow10" .u64 Lib.pow10Tab) :
  Calls Tryz.prog 259 #[.int .i64 n] w fun e w'=>e=.returned (.string ⟨(Lib.itoa n).toArray⟩)/\∃k os,w'=grow (w.drewN k) os:=Any.strconv_Itoa Tryz.aBh n h0 h1 w htab
def Tryz.aDW:Go.Shelf.Ren:=⟨fun|219=>258|217=>303|225=>304|224=>305|267=>306|266=>330|314=>331|n=>n,fun|9=>9|3=>3|4=>4|5=>5|46=>150|146=>269|51=>268|n=>n,fun|1=>0|n=>n⟩
def Tryz.atM:Go.Shelf.Ren:=⟨fun|145=>148|220=>214|219=>258|217=>303|225=>304|224=>305|267=>306|266=>330|314=>331|n=>n,fun|9=>9|4=>4|59=>183|3=>3|5=>5|46=>150|146=>269|51=>268|n=>n,fun|1=>0|n=>n⟩
theorem Tryz.aC1:Go.Proofs.Lays.n145 Tryz.prog Tryz.atM:={
 mixed:=by kernel_rfl
 f145:=Tryz.func148.trans (congrArg some (by kernel_rfl))
 f217:=Tryz.func303.trans (congrArg some (by kernel_rfl))
 f219:=Tryz.func258.trans (congrArg some (by kernel_rfl))
 f220:=Tryz.func214.trans (congrArg some (by kernel_rfl))
 f224:=Tryz.func305.trans (congrArg some (by kernel_rfl))
 f225:=Tryz.func304.trans (congrArg some (by kernel_rfl))
 f266:=Tryz.func330.trans (congrArg some (by kernel_rfl))
 f267:=Tryz.func306.trans (congrArg some (by kernel_rfl))
 f314:=Tryz.func331.trans (congrArg some (by kernel_rfl))
 t3:=Tryz.underlying3
 a3:=Tryz.isAgg3
 z3:=Tryz.sizeOf3
 v3:=Tryz.zeroValue3
 t4:=Tryz.underlying4
 a4:=Tryz.isAgg4
 z4:=Tryz.sizeOf4
 v4:=Tryz.zeroValue4
 t5:=Tryz.underlying5
 a5:=Tryz.isAgg5
 z5:=Tryz.sizeOf5
 v5:=Tryz.zeroValue5
 t9:=Tryz.underlying9
 a9:=Tryz.isAgg9
 z9:=Tryz.sizeOf9
 v9:=Tryz.zeroValue9
 t46:=Tryz.underlying150
 a46:=Tryz.isAgg150
 z46:=Tryz.sizeOf150
 v46:=Tryz.zeroValue150
 t51:=Tryz.underlying268
 a51:=Tryz.isAgg268
 z51:=Tryz.sizeOf268
 v51:=Tryz.zeroValue268
 t59:=Tryz.underlying183
 a59:=Tryz.isAgg183
 z59:=Tryz.sizeOf183
 v59:=Tryz.zeroValue183
 t146:=Tryz.underlying269
 a146:=Tryz.isAgg269
 z146:=Tryz.sizeOf269
 v146:=Tryz.zeroValue269
 g1:=by kernel_rfl}
open Go.RowKit Go.Lib in
theorem Tryz.strings_Cut (s sep:ByteArray)(m:Int)(w:World)(hs:s.size<4294967281)(hm:w.cell? ⟨0,0,none⟩=some (.int .i64 m)) :
  Calls Tryz.prog 148 #[.string s,.string sep] w fun e w'=>e=.returned (.tuple #[.string ⟨(Lib.cut s.data.toList sep.data.toList).1.toArray⟩,.string ⟨(Lib.cut s.data.toList sep.data.toList).2.1.toArray⟩,.bool (Lib.cut s.data.toList sep.data.toList).2.2])/\∃n,w'=w.drewN n:=Any.strings_Cut Tryz.aC1 s sep m w hs hm
def Tryz.arw:Go.Shelf.Ren:=⟨fun|145=>148|220=>214|219=>258|217=>303|225=>304|224=>305|267=>306|266=>330|314=>331|n=>n,fun|9=>9|4=>4|59=>183|3=>3|5=>5|46=>150|146=>269|51=>268|n=>n,fun|1=>0|n=>n⟩
theorem Tryz.aBi:Go.Proofs.LaysM.n145 Tryz.prog Tryz.arw:={
 mixed:=by kernel_rfl
 f145:=Tryz.func148.trans (congrArg some (by kernel_rfl))
 f217:=Tryz.func303.trans (congrArg some (by kernel_rfl))
 f219:=Tryz.func258.trans (congrArg some (by kernel_rfl))
 f220:=Tryz.func214.trans (congrArg some (by kernel_rfl))
 f224:=Tryz.func305.trans (congrArg some (by kernel_rfl))
 f225:=Tryz.func304.trans (congrArg some (by kernel_rfl))
 f266:=Tryz.func330.trans (congrArg some (by kernel_rfl))
 f267:=Tryz.func306.trans (congrArg some (by kernel_rfl))
 f314:=Tryz.func331.trans (congrArg some (by kernel_rfl))
 t3:=Tryz.underlying3
 a3:=Tryz.isAgg3
 z3:=Tryz.sizeOf3
 v3:=Tryz.zeroValue3
 t4:=Tryz.underlying4
 a4:=Tryz.isAgg4
 z4:=Tryz.sizeOf4
 v4:=Tryz.zeroValue4
 t5:=Tryz.underlying5
 a5:=Tryz.isAgg5
 z5:=Tryz.sizeOf5
 v5:=Tryz.zeroValue5
 t9:=Tryz.underlying9
 a9:=Tryz.isAgg9
 z9:=Tryz.sizeOf9
 v9:=Tryz.zeroValue9
 t46:=Tryz.underlying150
 a46:=Tryz.isAgg150
 z46:=Tryz.sizeOf150
 v46:=Tryz.zeroValue150
 t51:=Tryz.underlying268
 a51:=Tryz.isAgg268
 z51:=Tryz.sizeOf268
 v51:=Tryz.zeroValue268
 t59:=Tryz.underlying183
 a59:=Tryz.isAgg183
 z59:=Tryz.sizeOf183
 v59:=Tryz.zeroValue183
 t146:=Tryz.underlying269
 a146:=Tryz.isAgg269
 z146:=Tryz.sizeOf269
 v146:=Tryz.zeroValue269
 g1:=by kernel_rfl
 i3:=by kernel_rfl
 i4:=by kernel_rfl
 i5:=by kernel_rfl
 i9:=by kernel_rfl
 i46:=by kernel_rfl
 i51:=by kernel_rfl
 i59:=by kernel_rfl
 i146:=by kernel_rfl
 m1:=by kernel_rfl
 s1_3:=fun w h=>Go.Proofs.cell_of_shapedOpen_int (zero:=#[.int .i64 0]) (t:=3) h (of_decide_eq_true (by kernel_rfl)) (by kernel_rfl) rfl (by kernel_rfl) (by kernel_rfl) Tryz.underlying3}
def Tryz.aDX:Go.Shelf.Ren:=⟨fun|221=>257|268=>300|138=>301|143=>302|195=>327|197=>328|218=>329|219=>258|260=>345|217=>303|225=>304|224=>305|267=>306|266=>330|314=>331|n=>n,fun|9=>9|3=>3|31=>181|4=>4|0=>0|105=>266|21=>21|5=>5|46=>150|119=>293|139=>296|138=>295|146=>269|51=>268|n=>n,fun|1=>0|3=>1|4=>2|n=>n⟩
def Tryz.atN:Go.Shelf.Ren:=⟨fun|146=>213|221=>257|268=>300|138=>301|143=>302|195=>327|197=>328|218=>329|219=>258|260=>345|217=>303|225=>304|224=>305|267=>306|266=>330|314=>331|n=>n,fun|9=>9|31=>181|3=>3|4=>4|0=>0|105=>266|21=>21|5=>5|46=>150|119=>293|139=>296|138=>295|146=>269|51=>268|n=>n,fun|1=>0|3=>1|4=>2|n=>n⟩
theorem Tryz.aC2:Go.Proofs.Lays.n146 Tryz.prog Tryz.atN:={
 mixed:=by kernel_rfl
 f138:=Tryz.func301.trans (congrArg some (by kernel_rfl))
 f143:=Tryz.func302.trans (congrArg some (by kernel_rfl))
 f146:=Tryz.func213.trans (congrArg some (by kernel_rfl))
 f195:=Tryz.func327.trans (congrArg some (by kernel_rfl))
 f197:=Tryz.func328.trans (congrArg some (by kernel_rfl))
 f217:=Tryz.func303.trans (congrArg some (by kernel_rfl))
 f218:=Tryz.func329.trans (congrArg some (by kernel_rfl))
 f219:=Tryz.func258.trans (congrArg some (by kernel_rfl))
 f221:=Tryz.func257.trans (congrArg some (by kernel_rfl))
 f224:=Tryz.func305.trans (congrArg some (by kernel_rfl))
 f225:=Tryz.func304.trans (congrArg some (by kernel_rfl))
 f260:=Tryz.func345.trans (congrArg some (by kernel_rfl))
 f266:=Tryz.func330.trans (congrArg some (by kernel_rfl))
 f267:=Tryz.func306.trans (congrArg some (by kernel_rfl))
 f268:=Tryz.func300.trans (congrArg some (by kernel_rfl))
 f314:=Tryz.func331.trans (congrArg some (by kernel_rfl))
 t0:=Tryz.underlying0
 a0:=Tryz.isAgg0
 z0:=Tryz.sizeOf0
 v0:=Tryz.zeroValue0
 t3:=Tryz.underlying3
 a3:=Tryz.isAgg3
 z3:=Tryz.sizeOf3
 v3:=Tryz.zeroValue3
 t4:=Tryz.underlying4
 a4:=Tryz.isAgg4
 z4:=Tryz.sizeOf4
 v4:=Tryz.zeroValue4
 t5:=Tryz.underlying5
 a5:=Tryz.isAgg5
 z5:=Tryz.sizeOf5
 v5:=Tryz.zeroValue5
 t9:=Tryz.underlying9
 a9:=Tryz.isAgg9
 z9:=Tryz.sizeOf9
 v9:=Tryz.zeroValue9
 t21:=Tryz.underlying21
 a21:=Tryz.isAgg21
 z21:=Tryz.sizeOf21
 v21:=Tryz.zeroValue21
 t31:=Tryz.underlying181
 a31:=Tryz.isAgg181
 z31:=Tryz.sizeOf181
 v31:=Tryz.zeroValue181
 t46:=Tryz.underlying150
 a46:=Tryz.isAgg150
 z46:=Tryz.sizeOf150
 v46:=Tryz.zeroValue150
 t51:=Tryz.underlying268
 a51:=Tryz.isAgg268
 z51:=Tryz.sizeOf268
 v51:=Tryz.zeroValue268
 t105:=Tryz.underlying266
 a105:=Tryz.isAgg266
 z105:=Tryz.sizeOf266
 v105:=Tryz.zeroValue266
 t119:=Tryz.underlying293
 a119:=Tryz.isAgg293
 z119:=Tryz.sizeOf293
 t138:=Tryz.underlying295
 a138:=Tryz.isAgg295
 z138:=Tryz.sizeOf295
 v138:=Tryz.zeroValue295
 t139:=Tryz.underlying296
 a139:=Tryz.isAgg296
 z139:=Tryz.sizeOf296
 v139:=Tryz.zeroValue296
 t146:=Tryz.underlying269
 a146:=Tryz.isAgg269
 z146:=Tryz.sizeOf269
 v146:=Tryz.zeroValue269
 g1:=by kernel_rfl
 g3:=by kernel_rfl
 g4:=by kernel_rfl}
open Go.RowKit Go.Lib in
theorem Tryz.strings_Split (s sep:ByteArray)(m:Int)(w:World)(hs:s.size<4294967281)(hm:w.cell? ⟨0,0,none⟩=some (.int .i64 m))(h1:1<=sep.size) :
  Calls Tryz.prog 213 #[.string s,.string sep] w fun e w' =>
   e=.returned (.slice (some ⟨w.heap.size,0,none⟩) (Lib.countB s sep+1) (Lib.countB s sep+1))/\w'=w.alloc (.cells ((Lib.splitB sep 0 (Lib.countB s sep) s).map Value.string).toArray 9):=Any.strings_Split Tryz.aC2 (by kernel_rfl) s sep m w hs hm h1
end Go.Proofs
